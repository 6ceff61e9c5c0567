/- Part 7 of the proof. -/
import Derived.Lib.AppendStr
import Derived.Test.YtdkheklakfbeeaaGreatDoorM06
set_option linter.all false
set_option maxRecDepth 100000
set_option maxHeartbeats 16000000
namespace Go.Proofs.YtdkheklakfbeeaaGreatDoor
open Go.RowKit Tryz
variable {A B L O b:List Nat}{n:Nat}{w:W_}
def px (l:List UInt8):(iU l).length=l.length / 4:=by simp[iU]
def E2:(#[.int .u32 0,.int .u32 0,.int .u32 0,.int .u32 0,.int .u32 0,.int .u32 0,.int .u32 0,.int .u32 0,.int .u32 0,.int .u32 0,.int .u32 0,.int .u32 0,.int .u32 0,.int .u32 0,.int .u32 0,.int .u32 0]:Array Value)=(uv (List.replicate 16 0)).toArray:=by rfl
def gW.app {a:List Nat} (ha:gW a) (hb:gW b):gW (a++b):=by
 intro i;rw[be];rcases Nat.lt_or_ge i a.length with h|h
 ·rw[A3 h,<-be];exact ha i
 rw[uS h,<-be];exact hb _
def Cz (l:List UInt8):gW (iU l):=by
 intro i;unfold iU;rw[be,gq]
 cases e:(List.range (l.length / 4))[i]? with
 | none=>simp
 | some j =>
  rw[Option.map_some,Option.getD_some];exact TB l j
def gW.one {c:Nat} (h:c<4294967296):gW [c]:=by
 intro i
 cases i with
 | zero=>exact h
 | succ i=>simp
def chS_lt (key nonce:List UInt8) {e:Nat} (h:e<4294967296):gW (chS key nonce e):=((Cz _).app (.one h)).app (Cz _)
def Ny:(prog.info? 345).map (·.size)=some 16:=k_
def tL (w:W_) (key nonce:List UInt8) (hk:key.length=32) (hn:nonce.length=12) (o:Nat) (hc:o<4294967296) :
  Cl 246 #[.string (bs key),.string (bs nonce),.int .u32 o] w fun e w'=>e=.returned (.string (bs (gA key nonce o)))/\Kp ac w w':=by
 have Nc:Hid ((⟨#[101,120,112,97,110,100,32,51,50,45,98,121,116,101,32,107]⟩:B_)++bs key=bs ([101,120,112,97,110,100,32,51,50,45,98,121,116,101,32,107]++key)):=Zz (uQ [101,120,112,97,110,100,32,51,50,45,98,121,116,101,32,107] key)
 have h48:¬(9223372036854775807<16+(bs key).size):=by rw[cG,hk];omega
 have aR:Hid (gA key nonce o=oO (EP (j8 (chS key nonce o) 10) (chS key nonce o) 16)):=Zz rfl;have c:Hid (iU ([101,120,112,97,110,100,32,51,50,45,98,121,116,101,32,107]++key)++[o]++iU nonce=chS key nonce o):=Zz rfl;have x4:=Zz (chS_lt key nonce hc);generalize gA key nonce o=RES at *;generalize chS key nonce o=X at *;have y8:Hid ((bs ([101,120,112,97,110,100,32,51,50,45,98,121,116,101,32,107]++key)).size=48):=Zz (by rw[cG,cd,hk];rfl);go_enter func246,ntmps246;go_wp2_with fail;rw[Nc.o];refine (v_D _ _ (by rw[y8.o];omega) (by rw[y8.o])).mono ?_;rintro e w1 ⟨O,rfl,x0,y1⟩;have mL:=Zz x0;have x9:=Zz (Kp.of_below y1 ac);have u:∀q,O.ownBlock=some q->q<w1.heap.size:=fun q s=>(x0.lt q s).2;have y6:=Zz u;clear u;clear x0 y1;go_wp2_with fail;refine (v_D _ _ (by rw[cG,hn];omega) (by rw[cG,hn])).mono ?_;rintro e P ⟨H8,rfl,V,h3⟩
 have E:H8.ownBlock=none\/H8.ownBlock≠O.ownBlock:=by
  cases h:H8.ownBlock with
  | none=>exact .inl rfl
  | some q=>exact .inr fun e=>by have h1:=y6.o q e.symm;have h2:=(V.lt q h).1;omega
 have qe:=Zz E;have d:=Zz V;clear E;have x1:=Zz (mL.o.kp (Kp.of_below h3 ac) fun _ _ h=>h);have z:=Zz (x9.o.trans (Kp.of_below h3 ac));clear V h3 mL x9;obtain ⟨lw,R⟩:∃l,iU ([101,120,112,97,110,100,32,51,50,45,98,121,116,101,32,107]++key)=l:=⟨_,rfl⟩;rw[AT,R] at x1;rw[R] at c;have H5:Hid (lw.length=12):=Zz (by rw[<-R,px,cd,hk];rfl);obtain ⟨H2,N⟩:∃l,iU nonce=l:=⟨_,rfl⟩;rw[AT,N] at d;rw[N] at c;have h5:Hid (H2.length=3):=Zz (by rw[<-N,px,hn]);clear R N;obtain ⟨an,cn,rfl⟩:=d.o.shape
 go_upto_region 4 with fail
 rw[E2];have m:=Zz (ab.new P 345 (uv (List.replicate 16 0)).toArray).drew;have x5:=Zz ((d.o.alloc (.cells (uv (List.replicate 16 0)).toArray 345)).drew);have jB:=Zz ((x1.o.alloc (.cells (uv (List.replicate 16 0)).toArray 345)).drew);have y0:=Zz ((z.o.alloc (.cells (uv (List.replicate 16 0)).toArray 345)).drew);have Xb:=Zz z.o.size;clear d x1 z;refine v_K k_ ?_;change Fr _ _ _ _ _ _ _ (P.alloc (.cells (uv (List.replicate 16 0)).toArray 345)).drew;generalize (P.alloc (.cells (uv (List.replicate 16 0)).toArray 345)).drew=Q at *;generalize P.heap.size=F at *;refine fp 0 ?_;refine fp 1 ?_;refine fp 2 ?_;refine fp 5 ?_;refine fd 3 fun K Qx y9=>?_;go_simp;refine y9 _ _ oN ?_;clear y9 K;have W:=Zz (m.o.alloc (.cells #[.int .u32 o] 213));have nS:=Zz (x5.o.alloc (.cells #[.int .u32 o] 213));have J:=Zz (jB.o.alloc (.cells #[.int .u32 o] 213));have h4:=Zz (y0.o.alloc (.cells #[.int .u32 o] 213));have kB:=Zz ((aH.lit_ Q Q.heap.size 213 #[.int .u32 o] (bS _) (by show 1<=maxLen;decide)).reads);clear m x5 jB y0;generalize Q.alloc (.cells #[.int .u32 o] 213)=w5 at *;generalize Q.heap.size=g4 at *;refine Dj 4 rfl rfl k_ ?_;refine x_2 rfl underlying215 LB rfl d_ rfl rfl (w_L [o]) J.o kB.o (by show 0<1;decide) h4.o.size (by rw[ft,ft,H5.o];show (12+1)*4<=140737488355328;omega) ?_;intro v1 w6 ve M;refine ⟨oN,?_⟩;have hF:some F≠O.ownBlock:=W.o.own_no J.o d_;have A:=Zz (W.o.grown M hF);have pa:=Zz (nS.o.keep M qe.o);have L:=Zz (h4.o.then (Kp.of_grown M (S:=fun q=>some q=O.ownBlock) fun _ h=>h) fun q s h=>by have:=(J.o.lt q h.symm).1;omega);have I:=Zz ve;clear W nS h4 J kB ve M hF;refine Dj 6 rfl rfl k_ ?_;refine x_2 rfl underlying215 LB rfl d_ rfl rfl (w_L H2) I.o pa.o.reads (by rw[ft,h5.o];decide) L.o.size (by rw[cd,ft,ft,ft,H5.o,h5.o];show (12+1+3)*4<=140737488355328;omega) ?_;intro v2 w7 H6 H3;refine ⟨oN,?_⟩;have hF:some F≠v1.ownBlock:=A.o.own_no I.o d_;have B:=Zz (A.o.grown H3 hF);have y2:=Zz (L.o.then (Kp.of_grown H3 (S:=fun q=>some q=v1.ownBlock) fun _ h=>h) fun q s h=>by have:=(I.o.lt q h.symm).1;omega)
 have x6:uv lw++uv [o]++uv H2=uv X:=by rw[<-c.o];simp[uv]
 rw[x6] at H6;have h6:=Zz H6;have t:Hid (X.length=16):=Zz (by rw[<-c.o,cd,cd,H5.o,h5.o];rfl);clear A pa L I H6 H3 hF x6;obtain ⟨a2,y4,rfl⟩:=h6.o.shape;refine Dj 7 rfl rfl k_ ?_;refine jS rfl underlying215 M_ rfl rfl B.o h6.o.reads (by rw[ft,t.o];decide) (by rw[ft,t.o];decide) (by rw[ft,t.o];decide) (w_L X) ?_;refine ⟨oN,?_⟩;refine fe ?_
 have he:(List.take 0 (uv (List.replicate 16 0)).toArray.toList++uv X++List.drop (0+(uv X).length) (uv (List.replicate 16 0)).toArray.toList).toArray=(uv X).toArray:=by
  have h1:List.drop (0+(uv X).length) (uv (List.replicate 16 0)).toArray.toList=[]:=List.drop_eq_nil_of_le (by show (List.replicate 16 (0:Nat)).length<=_;rw[ft,t.o];decide);rw[h1];simp
 rw[he];have f:=Zz (B.o.setRow (cs':=(uv X).toArray));have G:=Zz (y2.o.setRow F (uv X).toArray (.inr Xb.o));clear B y2 h6 qe y6 he c;generalize w7.setRow F (uv X).toArray=v at *;simp only[Act.put,F6,List.set_cons_zero,List.set_cons_succ,List.getElem_toArray,List.getElem_cons_succ,List.getElem_cons_zero];have H1:Hid ((uv X).toArray.size=16):=Zz (by rw[tK,ft,t.o]);have aF:=Yc X;have U:=f.o.lt
 go_wp2_with (first
  | (refine wpList_load_row rfl 345 (.tmp 11) rfl F rfl 345 _ (0,0) _ f.o underlying345 rfl (by rw[H1.o];exact Ny) ?_)
  | (refine wpList_store_row rfl 345 (.tmp 12) (.tmp 35) rfl v.heap.size _ rfl rfl 345 _ (ab.new v _ _) (by rw[H1.o];exact Ny) (by rw[H1.o];rfl) aF ?_;go_must (
    rw[E2];have h8:=Zz ((ab.new v 345 (uv (List.replicate 16 0)).toArray).setRow (cs':=(uv X).toArray));have C:=Zz ((f.o.alloc (.cells (uv (List.replicate 16 0)).toArray 345)).farRow (g:=v.heap.size) (cs':=(uv X).toArray) (lI U));have h0:=Zz ((G.o.alloc (.cells (uv (List.replicate 16 0)).toArray 345)).setRow v.heap.size (uv X).toArray (.inr G.o.size));have H0:=Zz G.o.size;have H7:=Zz U;obtain ⟨w9,x7⟩:∃w9,(v.alloc (.cells (uv (List.replicate 16 0)).toArray 345)).setRow v.heap.size (uv X).toArray=w9:=⟨_,rfl⟩;rw[x7] at h8 C h0 ⊢;clear x7 f G U
    generalize v.heap.size=S at *)))
 go_loopw [13,14,36,38,50] (fun _ _ H4 _ _ wr=>∃i:Nat,i<=10/\H4=.int .i64 i/\Hid (ab wr S 345 (uv (j8 X i)).toArray)/\Hid (ab wr F 345 (uv X).toArray)/\Hid (Kp ac w wr)) (fun _ _ H4 _ _ _=>10-(intOf H4).toNat)
 case atStart=>exact ⟨0,o_,rfl,h8,C,h0⟩
 case round =>
  clear h8 C h0;obtain ⟨i,hi,rfl,n,m,r⟩:=hrel;by_cases u:i<10
  ·have bB:(i:Int)<10:=o_
   go_wp2
   go_loopw [13,38] (fun _ x2 wr=>∃k:Nat,k<=4/\x2=.int .i64 k/\Hid (ab wr S 345 (uv (sd (j8 X i) k)).toArray)/\Hid (ab wr F 345 (uv X).toArray)/\Hid (Kp ac w wr)) (fun _ x2 _=>4-(intOf x2).toNat)
   case atStart=>exact ⟨0,o_,rfl,n,m,r⟩
   case round =>
    clear n m r;obtain ⟨k,ar,rfl,n,m,r⟩:=hrel;by_cases bu:k<4
    ·have eB:(k:Int)<4:=o_
     go_wp2_with fail;rw[show (k:Int)+4=((k+4:Nat):Int) by omega,show (k:Int)+8=((k+8:Nat):Int) by omega,show (k:Int)+12=((k+12:Nat):Int) by omega];refine (oM _ S (sd (j8 X i) k) (ts (rU t.o i) k) (zm (M1 x4.o i) k) k (k+4) (k+8) (k+12) o_ o_ o_ o_ n.o).mono ?_;rintro e H9 ⟨rfl,b,a⟩;have h7:Hid (ab H9 S 345 (uv (sd (j8 X i) (k+1))).toArray):=Zz b;have h9:=Zz (m.o.kp a (fun h=>by have h:F=S:=h;have:=H7.o;omega));have z:=Zz (r.o.then a (T:=(·=S)) fun q s h=>by have h:q=S:=h;have:=H0.o;omega);clear b a n m r;go_wp2;go_roundw
     case rel=>exact ⟨k+1,o_,by go_num,h7,h9,z⟩
     case measure=>simp[intOf];omega
    obtain rfl:k=4:=o_;go_wp2;have y7:Hid (ab wr S 345 (uv (Do (sd (j8 X i) 4) 0)).toArray):=n;clear n
    go_loopw [14,50] (fun _ x3 wr=>∃k:Nat,k<=4/\x3=.int .i64 k/\Hid (ab wr S 345 (uv (Do (sd (j8 X i) 4) k)).toArray)/\Hid (ab wr F 345 (uv X).toArray)/\Hid (Kp ac w wr)) (fun _ x3 _=>4-(intOf x3).toNat)
    case atStart=>exact ⟨0,o_,rfl,y7,m,r⟩
    case round =>
     clear y7 m r;obtain ⟨k,ar,rfl,n,m,r⟩:=hrel;by_cases bu:k<4
     ·have eB:(k:Int)<4:=o_
      go_wp2_with fail;rw[show (4:Int)+((k:Int)+1) % 4=((4+(k+1) % 4:Nat):Int) by omega,show (8:Int)+((k:Int)+2) % 4=((8+(k+2) % 4:Nat):Int) by omega,show (12:Int)+((k:Int)+3) % 4=((12+(k+3) % 4:Nat):Int) by omega];refine (oM _ S (Do (sd (j8 X i) 4) k) (DO (ts (rU t.o i) 4) k) (MD (zm (M1 x4.o i) 4) k) k (4+(k+1) % 4) (8+(k+2) % 4) (12+(k+3) % 4) o_ o_ o_ o_ n.o).mono ?_;rintro e H9 ⟨rfl,b,a⟩;have h7:Hid (ab H9 S 345 (uv (Do (sd (j8 X i) 4) (k+1))).toArray):=Zz b;have h9:=Zz (m.o.kp a (fun h=>by have h:F=S:=h;have:=H7.o;omega));have z:=Zz (r.o.then a (T:=(·=S)) fun q s h=>by have h:q=S:=h;have:=H0.o;omega);clear b a n m r;go_wp2;go_roundw
      case rel =>
       refine ⟨_,_,_,_,_,_,_,_,_,_,_,_,_,_,_,_,_,_,_,?_,rfl⟩;exact ⟨k+1,o_,by go_num,h7,h9,z⟩
      case measure=>simp[intOf];omega
     obtain rfl:k=4:=o_;go_wp2;go_roundw
     case rel=>exact ⟨i+1,o_,by go_num,n,m,r⟩
     case measure=>simp[intOf];omega
  obtain rfl:i=10:=o_;have x8:=Rp (rU t.o 10) X;generalize j8 X 10=Y at *;go_wp2
  go_loopw [15,69] (fun _ D wr=>∃j:Nat,j<=16/\D=.int .i64 j/\Hid (ab wr S 345 (uv (EP Y X j)).toArray)/\Hid (ab wr F 345 (uv X).toArray)/\Hid (Kp ac w wr)) (fun _ D _=>16-(intOf D).toNat)
  case atStart=>exact ⟨0,o_,rfl,by rw[x8];exact n,m,r⟩
  case round =>
   clear n m r x8;obtain ⟨j,hj,rfl,n,m,r⟩:=hrel;by_cases u:j<16
   ·have cR:(j:Int)<16:=o_
    have y3:=pt n.o j (by rw[w_Y];exact u);rw[AN u,if_neg (Nat.lt_irrefl j)] at y3;have y4:=pt m.o j (by rw[t.o];exact u);have fz:=n.o.frozen j;have y5:∀x:Nat,ab (wr.drew.setCell ⟨S,j,none⟩ (.int .u32 x)) S 345 (uv ((EP Y X j).set j x)).toArray:=fun x=>x_0 n.o.drew j x;have bD:=Zz y5;clear y5;have Nr:=Zz (T1 (X:=Y) (Y:=X) u);have E:=H7.o;have xB:∀x:Nat,ab (wr.drew.setCell ⟨S,j,none⟩ (.int .u32 x)) F 345 (uv X).toArray:=fun x=>m.o.drew.far (p:=⟨S,j,none⟩) (lI E) _;have Fg:=Zz xB;clear xB;obtain ⟨q,s⟩:∃q,(Y.getD j 0+X.getD j 0) % 4294967296=q:=⟨_,rfl⟩;have HQ:=Zz s;generalize Y.getD j 0=y at *;generalize X.getD j 0=x at *;have hs:=w_R y x q s;clear s;go_wp2;have d1:wr.drew.cell? ⟨S,j,none⟩=_:=y3;have d2:wr.drew.cell? ⟨F,j,none⟩=_:=y4;have dz:wr.drew.frozen? ⟨S,j,none⟩=_:=fz
    go_still_tail 7,k_
    go_wp2;go_roundw
    case rel =>
     refine ⟨_,_,_,_,_,_,_,_,_,_,_,_,_,?_,rfl⟩;exact ⟨j+1,o_,by go_num,Zz (by rw[<-Nr.o,HQ.o];exact bD.o q),Zz (Fg.o q),Zz (r.o.drew.setCell ⟨S,j,none⟩ _ (.inr H0.o))⟩
    case measure=>simp[intOf];omega
   obtain rfl:j=16:=o_;have H:=w_Y Y X 16;generalize EP Y X 16=Z at *;go_wp2_with fail
   have bP:b_ wr (.slice (some ⟨S,0,none⟩) 16 16) (uv Z):=by
    refine ⟨_,16,by rw[ft,H],by rw[ft,H];omega,o_,fun _=>⟨S,0,rfl,fun j hj=>?_⟩⟩;rw[jm,n.o.cell,lP]
   refine (w_2 _ _ Z bP (by rw[H];omega)).mono ?_;rintro e wf ⟨rfl,zI⟩;have Xc:=Zz (r.o.trans (Kp.of_below zI _));rw[<-aR.o];go_wp2;go_ret;exact ⟨rfl,Xc.o⟩
def pr (w:W_) (key nonce:List UInt8) (hk:key.length=32) (hn:nonce.length=12) :
  Cl 245 #[.string (bs key),.string (bs nonce)] w fun e w'=>e=.returned (.bool true)/\w'=w:=by
 have g:(bs key).size=32:=by rw[cG,hk]
 have h:(bs nonce).size=12:=by rw[cG,hn]
 generalize bs key=s at *;generalize bs nonce=t at *;go_enter func245,ntmps245;go_wp2;go_ret;exact ⟨rfl,rfl⟩
def Dh (w:W_) (key nonce:List UInt8) (hk:key.length=32) (hn:nonce.length=12) (g:Nat) (k:g<4294967296) :
  Cl 241 #[.string (bs key),.string (bs nonce),.int .u32 g] w fun e w'=>e=.returned (.tuple #[.string (bs (gA key nonce g)),.int .i64 0])/\Kp ac w w':=by
 have h:=Zz (pr w key nonce hk hn);have i:=Zz (tL w key nonce hk hn g k);generalize gA key nonce g=R at *;go_enter func241,ntmps241;go_wp2_with fail;refine h.o.mono ?_;rintro e l ⟨rfl,rfl⟩;go_wp2_with fail;refine i.o.mono ?_;rintro e m ⟨rfl,j⟩;go_wp2;go_ret2;exact ⟨rfl,j⟩
def DA (l:List UInt8):Lib.strCells (bs l)=bv l:=by simp[Lib.strCells,bs,bv]
def If {P:Program} {ρ:Operand->Value} {o:Oper} {s x:Operand} {t u e:TypeId} {base:Nat} {v:Value} {k:List Value} {l:List UInt8} {R:Value->W_->Prop} (h:o.op=.call { callee:=.builtin .append,args:=#[s,x],argTypes:=#[t,u] })
  (b:P.underlying t=some (.slice e)) (c:P.underlying u=some .string) (q:(P.info? e).map (fun i=>(i.zero,i.size,i.bytes))=some (some (.int .u8 0),1,1))
  (hs:ρ s=v) (d:ρ x=.string (bs l)) (n:aH w base e v k) (p:base<=w.heap.size) (hl:k.length+l.length<=140737488355328)
  (hR:∀j g,aH g base e j (k++bv l)->w.grownBy g v.ownBlock->R j g):∃j g,(execOp ρ o).run P w=.ok (.value j) g/\R j g:=by
 obtain ⟨f,a,y,r,z⟩:=info_parts q;obtain ⟨j,g,E,m,hg,_⟩:=Lib.run_append_own_string (P:=P) w base t u o.type e f b c a y r z v k.length k n (bs l) (by rw[cG];simp only[maxLen];omega) (by rw[cG];exact hl) p;rw[DA] at m;refine ⟨j,g,?_,hR j g (by unfold aH;rw[cd,og];rw[cG] at m;exact m) hg⟩;unfold execOp;simp only[h,resolve,invoke,builtin,Sem.run_bind,Sem.run_pure,Result.andThen_ok,List.map_toArray,List.map_cons,List.map_nil,hs,d,E]
def wg (w:W_) (key nonce l:List UInt8) (hk:key.length=32) (hn:nonce.length=12) (g:Nat) (h3:g<4294967295) (h7:0<l.length) (hl:l.length<=64) :
  Cl 210 #[.string (bs key),.string (bs nonce),.int .u32 g,.string (bs l)] w fun e w'=>e=.returned (.tuple #[.string (bs (eW l (gA key nonce g))),.int .i64 0])/\Kp ac w w':=by
 have I:=Zz (pr w key nonce hk hn);have J:=Zz (fun W=>tL W key nonce hk hn g o_);have M:=Zz (fun W=>AO (bs l) (bs (gA key nonce g)) l (gA key nonce g) rfl rfl (by rw[cG];omega) W);have X:Hid ((eW l (gA key nonce g)).length<=64):=Zz (by unfold eW;rw[List.length_zipWith];omega);have h1:(bs l).size=l.length:=cG l;have L:(bs []).size=0:=rfl;have D:¬((65536:Int)<(l.length:Int)):=o_;have a:=UJ l.length o_ w;have t:=aH.made0 w w.heap.size l.length (bS _) o_;have s:=(Kp.refl ac w).alloc (.cells (madeCells #[.int .u8 0] l.length) 5);have G:Hid ((bs l).extract 0 l.length=bs l):=Zz (by rw[Co];simp);have O:Hid ((bs l).extract l.length l.length=bs []):=Zz (by rw[Co];simp);obtain ⟨w0,b⟩:∃w0,w.alloc (.cells (madeCells #[.int .u8 0] l.length) 5)=w0:=⟨_,rfl⟩;rw[b] at a t s;have j:=Zz t;have k:=Zz s;clear t s b;generalize gA key nonce g=T at *;generalize eW l T=R at *;go_enter func210,ntmps210;go_wp2_with fail;refine I.o.mono ?_;rintro e n ⟨rfl,rfl⟩;go_wp2;clear a
 go_loopw [2,3,10,11] (fun Y x Z _ wr=>∃i:Nat,i<=1/\Y=.int .u32 (g+i:Nat)/\x=.string (if i=0 then bs l else bs [])/\Hid (aH wr n.heap.size 5 Z (bv (if i=0 then [] else R)))/\Hid (Kp ac n wr)) (fun _ x _ _ _=>mb x)
 case atStart=>exact ⟨0,o_,rfl,rfl,j,k⟩
 case round =>
  clear j k;obtain ⟨i,h4,rfl,rfl,j,k⟩:=hrel;rcases (by omega:i=0\/i=1) with rfl|rfl
  ·have h6:(0:Int)<(l.length:Int):=o_
   have C:min (l.length:Int) 64=(l.length:Int):=o_;have o:Hid (aH wr n.heap.size 5 u10 (bv [])):=j;have y:=Zz o.o.drew;have c:=Zz k.o.drew;clear j o k;simp only[if_true,Nat.add_zero]
   go_upto_region 9 with fail
   have F:=G.o;refine fs ?_;generalize wr.drew=h8 at *;refine fp 0 ?_;refine fp 1 ?_;refine fp 2 ?_;refine fp 3 ?_;refine fp 4 ?_;refine fp 5 ?_;refine fp 6 ?_;refine fd 7 fun K N m=>?_;go_simp;refine (J.o _).mono ?_;rintro e h9 ⟨rfl,r⟩;refine m _ _ oN ?_;clear m K;have d:=Zz (y.o.kp r fun _ _ h=>h);have z:=Zz (c.o.trans r);clear r y c;refine fd 8 fun K N m=>?_;go_simp;refine (M.o _).mono ?_;rintro e H0 ⟨rfl,v⟩;refine m _ _ oN ?_;clear m K;have u:=Zz (d.o.below v);have p:=Zz (z.o.trans (Kp.of_below v _));clear v d z;refine Dj 9 rfl rfl k_ ?_;refine If rfl underlying105 underlying9 nM rfl rfl u.o p.o.size (by have:=X.o;simp only[og,List.length_nil];omega) ?_;intro A B E f;have V:Hid (aH B n.heap.size 5 A (bv R)):=Zz E;have U:=Zz (p.o.then (Kp.of_grown f (S:=fun q=>some q=u10.ownBlock) fun _ h=>h) fun q h5 h=>by have:=(u.o.lt q h.symm).1;omega);clear E f u p;refine ⟨oN,?_⟩;refine fp 10 ?_;refine fe ?_;have H:=O.o;have h0:((g:Int)+1) % 4294967296=((g+1:Nat):Int):=o_;go_wp2;go_roundw
   case rel=>exact ⟨1,o_,rfl,rfl,V,U⟩
   case measure=>simp[mb];omega
  have o:Hid (aH wr n.heap.size 5 u10 (bv R)):=j;clear j;have h2:=UG (P:=prog) (src:=105) (dst:=9) underlying105 underlying5 underlying9 o.o.reads;have Q:¬((1:Nat)=0):=d_;simp only[if_neg Q];go_wp2;go_ret2;exact ⟨rfl,k.o⟩
def uq (L:List Nat):List Value:=L.map fun (x:Nat)=>.int .u64 x
def x_o (L:List Nat):(uq L).length=L.length:=by simp[uq]
def V2 (L:List Nat) (i:Nat) (h:i<L.length):(uq L)[i]?=some (.int .u64 (L.getD i 0:Nat)):=by
 simp[uq,be,h]
def uq_set (L:List Nat) (i x:Nat):(uq L).set i (.int .u64 x)=uq (L.set i x):=by simp[uq,List.map_set]
def uq_one (L:List Nat):∀u∈uq L,u.oneCell'=true:=by
 intro u e;simp[uq] at e;obtain ⟨x,_,rfl⟩:=e;rfl
def oI {G t:Nat} (h:ab w G t (uq L).toArray) (i:Nat) (e:i<L.length):w.cell? ⟨G,i,none⟩=some (.int .u64 (L.getD i 0:Nat)):=by
 rw[h.cell,lP,V2 L i e]
def RF {G t:Nat} (h:ab w G t (uq L).toArray) (i x:Nat):ab (w.setCell ⟨G,i,none⟩ (.int .u64 x)) G t (uq (L.set i x)).toArray:=by
 have:=h.set_ i (.int .u64 x)
 rwa [F6,uq_set] at this
def hI (L:List Nat):Prop:=∀i,L.getD i 0<18446744073709551616
def hI.set (h:hI L) (i x:Nat) (e:x<18446744073709551616):hI (L.set i x):=by
 intro j;rw[be,BA];split
 ·split
  ·exact e
  simp
 rw[<-be];exact h j
def lc (a b q:Nat) (e:(a+b) % 18446744073709551616=q):IntKind.u64.wrap ((a:Int)+(b:Int))=(q:Int):=by rw[ie];omega
def kK (a b:Nat) (ha:a<18446744073709551616) (hb:b<18446744073709551616):bits .and .u64 (a:Int) (b:Int)=((a &&& b:Nat):Int):=(bits_nat .u64 64 d_ wraps_u64 a b ha hb).1
def E1 (a b:Nat) (ha:a<18446744073709551616) (hb:b<18446744073709551616):bits .or .u64 (a:Int) (b:Int)=((a ||| b:Nat):Int):=(bits_nat .u64 64 d_ wraps_u64 a b ha hb).2
def cyS:Nat × List Nat->Nat->Nat × List Nat:=fun s i=>(((s.2.getD i 0+s.1) % 18446744073709551616) / 67108864,s.2.set i (((s.2.getD i 0+s.1) % 18446744073709551616) &&& 67108863))
def fJ (A:List Nat):Nat->Nat × List Nat
 | 0=>(0,A)
 | i+1=>cyS (fJ A i) i
def cyE (s:Nat × List Nat):List Nat :=
 let e:=(s.2.getD 0 0+s.1*5 % 18446744073709551616) % 18446744073709551616;let B:=s.2.set 0 e;let C:=B.set 1 ((B.getD 1 0+e / 67108864) % 18446744073709551616)
 C.set 0 (e &&& 67108863)
def Cp (A:List Nat):List Nat:=cyE (fJ A 5)
def zO (h:A.length=5) (i:Nat):(fJ A i).2.length=5:=by
 induction i with
 | zero=>exact h
 | succ i e=>simp[fJ,cyS,e]
def cyI_lt (h:hI A) (i:Nat):hI (fJ A i).2:=by
 induction i with
 | zero=>exact h
 | succ i e=>exact e.set _ _ (Nat.lt_of_le_of_lt Nat.and_le_right d_)
def mC (w:W_) (p t:Nat) (A:List Nat) (Q:A.length=5) (K:hI A) (N:ab w p t (uq A).toArray) :
  Cl 268 #[.pointer (some ⟨p,0,none⟩)] w fun e w'=>e=.returned (.tuple #[])/\ab w' p t (uq (Cp A)).toArray/\Kp (·=p) w w':=by
 have g:=Zz N;have n:=Zz (Kp.refl (·=p) w);clear N;go_enter func268,ntmps268;go_wp2
 go_loopw [2,3,4] (fun D _ J wr=>∃i:Nat,i<=5/\J=.int .i64 i/\D=.int .u64 ((fJ A i).1:Nat)/\Hid (ab wr p t (uq (fJ A i).2).toArray)/\Hid (Kp (·=p) w wr)) (fun _ _ J _=>5-(intOf J).toNat)
 case atStart=>exact ⟨0,o_,rfl,rfl,g,n⟩
 case round =>
  clear g n;obtain ⟨i,H,rfl,rfl,g,n⟩:=hrel;by_cases d:i<5
  ·have F:(i:Int)<5:=o_
   have P:Hid (fJ A (i+1)=(((fJ A i).2.getD i 0+(fJ A i).1) % 18446744073709551616 / 67108864,(fJ A i).2.set i (((fJ A i).2.getD i 0+(fJ A i).1) % 18446744073709551616 &&& 67108863))):=Zz rfl;have j:=Zz (zO Q i);have h:=oI g.o i (by rw[j.o];exact d);have fz:=g.o.frozen i;have r:=Zz g.o;have s:=Zz n.o;generalize (fJ A i).1=c at *;generalize (fJ A i).2=B at *;obtain ⟨v,hv⟩:∃v,(B.getD i 0+c) % 18446744073709551616=v:=⟨_,rfl⟩
   have I:v<18446744073709551616:=by rw[<-hv];exact gx _ d_
   have z:=Zz hv;generalize B.getD i 0=x at *;have hs:=lc x c v hv;have X:bits .and .u64 (v:Int) 67108863=((v &&& 67108863:Nat):Int):=kK v 67108863 I d_;clear hv;have d1:wr.drew.cell? ⟨p,i,none⟩=_:=h;have o:wr.drew.frozen? ⟨p,i,none⟩=_:=fz
   go_upto_region 4 with fail
   go_still_tail 8,k_
   go_upto_region 6 with fail
   have k:=Zz (RF r.o i v).drew;have a:=Zz ((s.o.setCell ⟨p,i,none⟩ (.int .u64 v) (.inl rfl)).drew);clear d1 o h fz r s g n hs;generalize (wr.setCell ⟨p,i,none⟩ (.int .u64 v)).drew=l at *;have h:=oI k.o i (by rw[iO,j.o];exact d);rw[show (B.set i v).getD i 0=v by rw[be,BA,if_pos rfl,if_pos (by rw[j.o];exact d)];rfl] at h;have fz:=k.o.frozen i;have d1:l.drew.cell? ⟨p,i,none⟩=_:=h;have o:l.drew.frozen? ⟨p,i,none⟩=_:=fz;have E:Hid (ab (l.drew.setCell ⟨p,i,none⟩ (.int .u64 (v &&& 67108863:Nat))) p t (uq ((B.set i v).set i (v &&& 67108863))).toArray):=Zz (RF k.o.drew i _);generalize hm:v &&& 67108863=m at *;have b:=Zz hm;clear hm
   go_still_tail 7,k_
   go_wp2;go_roundw
   case rel=>exact ⟨i+1,o_,by go_num,by rw[P.o,z.o];go_num,Zz (by rw[P.o,z.o,b.o];have:=E.o;rwa [List.set_set] at this),Zz (a.o.drew.setCell ⟨p,i,none⟩ _ (.inl rfl))⟩
   case measure=>simp[intOf];omega
  obtain rfl:i=5:=o_;have T:Hid (Cp A=((((fJ A 5).2.set 0 (((fJ A 5).2.getD 0 0+(fJ A 5).1*5 % 18446744073709551616) % 18446744073709551616)).set 1 ((((fJ A 5).2.set 0 (((fJ A 5).2.getD 0 0+(fJ A 5).1*5 % 18446744073709551616) % 18446744073709551616)).getD 1 0+(((fJ A 5).2.getD 0 0+(fJ A 5).1*5 % 18446744073709551616) % 18446744073709551616) / 67108864) % 18446744073709551616)).set 0 ((((fJ A 5).2.getD 0 0+(fJ A 5).1*5 % 18446744073709551616) % 18446744073709551616) &&& 67108863))):=Zz rfl;have j:=Zz (zO Q 5);have h:=oI g.o 0 (by rw[j.o];decide);have fz:=g.o.frozen 0;have r:=Zz g.o;have s:=Zz n.o;generalize (fJ A 5).1=c at *;generalize (fJ A 5).2=B at *;generalize B.getD 0 0=x at *;obtain ⟨G,O⟩:∃v,c*5 % 18446744073709551616=v:=⟨_,rfl⟩;obtain ⟨v,hv⟩:∃v,(x+G) % 18446744073709551616=v:=⟨_,rfl⟩
  have I:v<18446744073709551616:=by rw[<-hv];exact gx _ d_
  have Y:=Zz O;have z:=Zz hv
  have Z:IntKind.u64.wrap ((c:Int)*5)=(G:Int):=by rw[ie];omega
  have hs:=lc x G v hv;have X:bits .and .u64 (v:Int) 67108863=((v &&& 67108863:Nat):Int):=kK v 67108863 I d_;clear hv O;have d1:wr.drew.cell? ⟨p,0,none⟩=_:=h;have o:wr.drew.frozen? ⟨p,0,none⟩=_:=fz
  go_upto_region 8 with fail
  go_still_tail 8,k_
  go_upto_region 9 with fail
  have k:=Zz (RF r.o 0 v).drew;have a:=Zz ((s.o.setCell ⟨p,0,none⟩ (.int .u64 v) (.inl rfl)).drew);clear d1 o h fz r s g n hs Z;generalize (wr.setCell ⟨p,0,none⟩ (.int .u64 v)).drew=l at *;have q:=oI k.o 0 (by rw[iO,j.o];decide);rw[show (B.set 0 v).getD 0 0=v by rw[be,BA,if_pos rfl,if_pos (by rw[j.o];decide)];rfl] at q;have h:=oI k.o 1 (by rw[iO,j.o];decide);have fz:=k.o.frozen 1;have d0:l.drew.cell? ⟨p,0,none⟩=_:=q;have d1:l.drew.cell? ⟨p,1,none⟩=_:=h;have o:l.drew.frozen? ⟨p,1,none⟩=_:=fz;generalize S:(B.set 0 v).getD 1 0=y at *;have V:=Zz S;clear S;obtain ⟨u,R⟩:∃u,(y+v / 67108864) % 18446744073709551616=u:=⟨_,rfl⟩;have U:=Zz R
  have C:IntKind.u64.wrap ((y:Int)+(v:Int) / 67108864)=(u:Int):=by rw[ie];omega
  clear R
  go_still_tail 11,k_
  go_upto_region 10 with fail
  have f:=Zz (RF k.o 1 u).drew;have W:=Zz ((a.o.setCell ⟨p,1,none⟩ (.int .u64 u) (.inl rfl)).drew);clear d0 d1 o q h fz k a C;generalize (l.setCell ⟨p,1,none⟩ (.int .u64 u)).drew=M at *;have q:=oI f.o 0 (by rw[iO,iO,j.o];decide);rw[show ((B.set 0 v).set 1 u).getD 0 0=v by rw[be,BA,if_neg d_,BA,if_pos rfl,if_pos (by rw[j.o];decide)];rfl] at q;have fz:=f.o.frozen 0;have d0:M.drew.cell? ⟨p,0,none⟩=_:=q;have o:M.drew.frozen? ⟨p,0,none⟩=_:=fz;have E:Hid (ab (M.drew.setCell ⟨p,0,none⟩ (.int .u64 (v &&& 67108863:Nat))) p t (uq (((B.set 0 v).set 1 u).set 0 (v &&& 67108863))).toArray):=Zz (RF f.o.drew 0 _);generalize hm:v &&& 67108863=m at *;have b:=Zz hm;clear hm
  go_still_tail 6,k_
  go_wp2
  go_end0
  exact ⟨rfl,by rw[T.o,Y.o,z.o,V.o,U.o,b.o];exact E.o,W.o.drew.setCell ⟨p,0,none⟩ _ (.inl rfl)⟩
def Jr (A R O:List Nat) (i k:Nat):List Nat :=
 if i+k<5 then O.set (i+k) ((O.getD (i+k) 0+A.getD i 0*R.getD k 0 % 18446744073709551616) % 18446744073709551616)
 else O.set (i+k-5) ((O.getD (i+k-5) 0+A.getD i 0*R.getD k 0 % 18446744073709551616*5 % 18446744073709551616) % 18446744073709551616)
def qd (A R O:List Nat) (i:Nat):Nat->List Nat
 | 0=>O
 | k+1=>Jr A R (qd A R O i k) i k
def Hb (A R:List Nat):Nat->List Nat
 | 0=>List.replicate 5 0
 | i+1=>qd A R (Hb A R i) i 5
def vS (A R:List Nat):List Nat:=Cp (Hb A R 5)
def Ye (h:O.length=5) (A R:List Nat) (i k:Nat):(Jr A R O i k).length=5:=by unfold Jr;split<;>simp[h]
def mulS_lt (h:hI O) (A R:List Nat) (i k:Nat):hI (Jr A R O i k):=by
 unfold Jr;split
 ·exact h.set _ _ (gx _ d_)
 exact h.set _ _ (gx _ d_)
def E_ (h:O.length=5) (A R:List Nat) (i k:Nat):(qd A R O i k).length=5:=by
 induction k with
 | zero=>exact h
 | succ k e=>exact Ye e _ _ _ _
def mulK_lt (h:hI O) (A R:List Nat) (i k:Nat):hI (qd A R O i k):=by
 induction k with
 | zero=>exact h
 | succ k e=>exact mulS_lt e _ _ _ _
def rT (A R:List Nat) (i:Nat):(Hb A R i).length=5:=by
 induction i with
 | zero=>rfl
 | succ i e=>exact E_ e _ _ _ _
def Mt (A R:List Nat) (i:Nat):hI (Hb A R i):=by
 induction i with
 | zero =>
  intro j;show (List.replicate 5 0).getD j 0<_;rw[be,List.getElem?_replicate]
  split<;>decide
 | succ i e=>exact mulK_lt e _ _ _ _
def yv:(#[.int .u64 0,.int .u64 0,.int .u64 0,.int .u64 0,.int .u64 0]:Array Value)=(uq (List.replicate 5 0)).toArray:=by rfl
def SI:(prog.info? 341).map (·.size)=some 5:=k_
def my (L:List Nat):(uq L).toArray.all (·.oneCell')=true:=all_oneCell_toArray (uq_one L)
def su {t:TypeId} (h:prog.underlying t=some (.array n 29)) (o:L.length=n) (i:Nat) (k:i<n) (w:W_) :
  (Instr.index t (.agg (uq L).toArray) (.int .i64 i)).run prog w=.ok (.int .u64 (L.getD i 0:Nat)) w:=by
 have hb:0<=(i:Int)/\(i:Int)<(n:Int):=o_
 have m:(uq L).toArray[i]?=some (.int .u64 (L.getD i 0:Nat)):=by rw[lP,V2 L i o_]
 have e:(prog.info? 29).map (·.size)=some 1:=k_
 cases g:prog.info? 29 with
 | none=>rw[g] at e;cases e
 | some j =>
  rw[g] at e
  have l:j.size=1:=by simpa using e
  simp[Instr.index,run_underlying h,asIntOf,hb,go_sem,sizeOf,typeInfo,g,l,m];rw[if_pos k,V2 L i o_];simp[be]
def w_H (h:A.length=5):(Cp A).length=5:=by
 unfold Cp cyE;simp only[iO];exact zO h 5
def EK (A R:List Nat):(vS A R).length=5:=w_H (rT A R 5)
def Eu (w:W_) (p t:Nat) (A R:List Nat) (F:A.length=5) (H4:hI A) (hR:R.length=5) (H1:hI R) (E:ab w p t (uq A).toArray) :
  Cl 262 #[.pointer (some ⟨p,0,none⟩),.agg (uq R).toArray] w fun e w'=>e=.returned (.tuple #[])/\ab w' p t (uq (vS A R)).toArray/\Kp (·=p) w w':=by
 have g:=Zz E;have x7:=E.lt;clear E;have H6:Hid ((uq R).toArray.size=5):=Zz (by rw[tK,x_o,hR]);have x5:=my R;go_enter func262,ntmps262;go_wp2;rw[yv];have B:(w.alloc (.cells (uq R).toArray 341)).heap.size=w.heap.size+1:=s_;have s:=Zz ((ab.new w 341 (uq R).toArray).alloc (.cells (uq (List.replicate 5 0)).toArray 341));have S:=ab.new (w.alloc (.cells (uq R).toArray 341)) 341 (uq (List.replicate 5 0)).toArray;rw[B] at S;have d:Hid (ab ((w.alloc (.cells (uq R).toArray 341)).alloc (.cells (uq (List.replicate 5 0)).toArray 341)) (w.heap.size+1) 341 (uq (Hb A R 0)).toArray):=Zz S;have z:=Zz ((g.o.alloc (.cells (uq R).toArray 341)).alloc (.cells (uq (List.replicate 5 0)).toArray 341));have a:=Zz (((Kp.refl ac w).alloc (.cells (uq R).toArray 341)).alloc (.cells (uq (List.replicate 5 0)).toArray 341));clear S B g;generalize (w.alloc (.cells (uq R).toArray 341)).alloc (.cells (uq (List.replicate 5 0)).toArray 341)=y2 at *;generalize hG:w.heap.size=G at *;have o:=Zz hG;clear hG
 go_loopw [5,6,7,8,10,17] (fun _ _ _ _ X _ wr=>∃i:Nat,i<=5/\X=.int .i64 i/\Hid (ab wr (G+1) 341 (uq (Hb A R i)).toArray)/\Hid (ab wr G 341 (uq R).toArray)/\Hid (ab wr p t (uq A).toArray)/\Hid (Kp ac w wr)) (fun _ _ _ _ X _ _=>5-(intOf X).toNat)
 case atStart=>exact ⟨0,o_,rfl,d,s,z,a⟩
 case round =>
  clear d s z a;obtain ⟨i,x9,rfl,j,HR,g,l⟩:=hrel;by_cases h7:i<5
  ·have x6:(i:Int)<5:=o_
   have f:=oI g.o i (by rw[F];exact h7);have y1:=H4 i;have h2:Hid (∀k,Jr A R (qd A R (Hb A R i) i k) i k=qd A R (Hb A R i) i (k+1)):=Zz fun _=>rfl;have h1:Hid (∀O k,Jr A R O i k=if i+k<5 then O.set (i+k) ((O.getD (i+k) 0+A.getD i 0*R.getD k 0 % 18446744073709551616) % 18446744073709551616) else O.set (i+k-5) ((O.getD (i+k-5) 0+A.getD i 0*R.getD k 0 % 18446744073709551616*5 % 18446744073709551616) % 18446744073709551616)):=Zz fun _ _=>rfl;generalize A.getD i 0=x at *;have d1:wr.drew.cell? ⟨p,i,none⟩=_:=f;have d:=Zz j.o.drew;have s:=Zz HR.o.drew;have z:=Zz g.o.drew;have a:=Zz l.o.drew
   go_upto_region 4 with fail
   go_still k_
   change Exit.then _ _ _ _ wr.drew;clear f d1 j HR g l;generalize wr.drew=H9 at *
   go_wp2_with (refine wpList_load_row rfl 341 (.tmp 3) rfl G rfl 341 _ (0,0) _ s.o underlying341 rfl (by rw[H6.o];exact SI) ?_)
   have K:Hid (ab H9 (G+1) 341 (uq (qd A R (Hb A R i) i 0)).toArray):=d;clear d
   go_loopw [7,8,17] (fun _ _ W wr=>∃k:Nat,k<=5/\W=.int .i64 k/\Hid (ab wr (G+1) 341 (uq (qd A R (Hb A R i) i k)).toArray)/\Hid (ab wr G 341 (uq R).toArray)/\Hid (ab wr p t (uq A).toArray)/\Hid (Kp ac w wr)) (fun _ _ W _=>5-(intOf W).toNat)
   case atStart=>exact ⟨0,o_,rfl,K,s,z,a⟩
   case round =>
    clear K s z a;obtain ⟨k,x4,rfl,j,HR,g,l⟩:=hrel;by_cases h8:k<5
    ·have x8:(k:Int)<5:=o_
     have x2:=su underlying341 hR k h8 wr
     have x1:IntKind.u64.wrap ((x:Int)*((R.getD k 0:Nat):Int))=((x*R.getD k 0 % 18446744073709551616:Nat):Int):=by rw[ie,<-Int.natCast_mul];omega
     have L:=Zz (h2.o k);have Y:=Zz (h1.o (qd A R (Hb A R i) i k) k);have h0:=Zz (E_ (rT A R i) A R i k);generalize R.getD k 0=r at *;generalize qd A R (Hb A R i) i k=O at *;generalize x*r % 18446744073709551616=m at *;by_cases Q:i+k<5
     ·have h3:((i:Int)+(k:Int))=((i+k:Nat):Int):=o_
      have h5:((i+k:Nat):Int)<5:=o_;have f:=oI j.o (i+k) (by rw[h0.o];exact Q);have fz:=j.o.frozen (i+k);have J:Hid (i+k<5):=Zz Q;generalize c:i+k=n at *;have h9:=Zz c;clear c;obtain ⟨v,hv⟩:∃v,(O.getD n 0+m) % 18446744073709551616=v:=⟨_,rfl⟩;have I:=Zz hv;generalize O.getD n 0=y at *;have hs:=lc y m v hv;clear hv;have u:G≠G+1:=o_
      have U:p≠G+1:=by have:=o.o;omega
      have b:=RF j.o n v;have P:Hid (ab (wr.setCell ⟨G+1,n,none⟩ (.int .u64 v)) (G+1) 341 (uq (qd A R (Hb A R i) i (k+1))).toArray):=Zz (by rw[<-L.o,Y.o,if_pos J.o,I.o];exact b);clear b;go_wp2;go_roundw
      case rel=>exact ⟨k+1,o_,by go_num,P,Zz (HR.o.far (p:=⟨G+1,n,none⟩) u _),Zz (g.o.far (p:=⟨G+1,n,none⟩) U _),Zz (l.o.setCell ⟨G+1,n,none⟩ _ (.inr (by have:=o.o;show w.heap.size<=G+1;omega)))⟩
      case measure=>simp[intOf];omega
     have h5:¬((i:Int)+(k:Int)<5):=o_;have h3:((i:Int)+(k:Int))-5=((i+k-5:Nat):Int):=o_;have x3:((i+k-5:Nat):Int)<5:=o_;have f:=oI j.o (i+k-5) (by rw[h0.o];omega);have fz:=j.o.frozen (i+k-5);have J:Hid (¬(i+k<5)):=Zz Q;generalize c:i+k-5=n at *;have h9:=Zz c;clear c;obtain ⟨V,Z⟩:∃v,m*5 % 18446744073709551616=v:=⟨_,rfl⟩;obtain ⟨v,hv⟩:∃v,(O.getD n 0+V) % 18446744073709551616=v:=⟨_,rfl⟩;have I:=Zz hv;have H3:=Zz Z;generalize O.getD n 0=y at *
     have H2:IntKind.u64.wrap ((m:Int)*5)=(V:Int):=by rw[ie];omega
     have hs:=lc y V v hv;clear hv Z;have u:G≠G+1:=o_
     have U:p≠G+1:=by have:=o.o;omega
     have b:=RF j.o n v;have P:Hid (ab (wr.setCell ⟨G+1,n,none⟩ (.int .u64 v)) (G+1) 341 (uq (qd A R (Hb A R i) i (k+1))).toArray):=Zz (by rw[<-L.o,Y.o,if_neg J.o,H3.o,I.o];exact b);clear b;go_wp2;go_roundw
     case rel=>exact ⟨k+1,o_,by go_num,P,Zz (HR.o.far (p:=⟨G+1,n,none⟩) u _),Zz (g.o.far (p:=⟨G+1,n,none⟩) U _),Zz (l.o.setCell ⟨G+1,n,none⟩ _ (.inr (by have:=o.o;show w.heap.size<=G+1;omega)))⟩
     case measure=>simp[intOf];omega
    obtain rfl:k=5:=o_;go_wp2;go_roundw
    case rel=>exact ⟨i+1,o_,by go_num,j,HR,g,l⟩
    case measure=>simp[intOf];omega
  obtain rfl:i=5:=o_
  have u:p≠G+1:=by have:=o.o;omega
  go_wp2_with fail;refine (mC _ (G+1) 341 (Hb A R 5) (rT A R 5) (Mt A R 5) j.o).mono ?_;rintro e x0 ⟨rfl,D,N⟩;have H0:Hid (ab x0 (G+1) 341 (uq (vS A R)).toArray):=Zz D;have C:=Zz (g.o.kp N fun h=>u h);have h6:=Zz (l.o.then N (T:=(·=G+1)) fun q y0 h=>by have h:q=G+1:=h;have:=o.o;omega);have H8:Hid ((vS A R).length=5):=Zz (EK A R)
  have M:(uq (vS A R)).toArray.size=5:=by rw[tK,x_o,H8.o]
  have H5:=my (vS A R)
  have h4:(uq A).toArray.size=5:=by rw[tK,x_o,F]
  clear D N j HR g l;generalize H:vS A R=T at *;have H7:=Zz H;clear H
  go_wp2_with (first
   | (refine wpList_load_row rfl 341 (.tmp 4) rfl (G+1) rfl 341 _ (0,0) _ H0.o underlying341 rfl (by rw[M];exact SI) ?_)
   | (refine wpList_store_row rfl 341 (.tmp 52) (.tmp 51) rfl p _ rfl rfl t _ C.o (by rw[M];exact SI) (by rw[M,h4]) H5 ?_))
  go_end0
  exact ⟨rfl,by rw[H7.o];exact C.o.setRow,(h6.o.mono fun _ _ h=>h.elim).setRow p _ (.inl rfl)⟩
def lsS (b:List Nat) (i:Nat):List Nat :=
 (b.set (i+1) ((b.getD (i+1) 0+b.getD i 0 / 67108864) % 18446744073709551616)).set i (b.getD i 0 &&& 67108863)
def Gd (b:List Nat):Nat->List Nat
 | 0=>b
 | i+1=>lsS (Gd b i) i
def Xa (B:List Nat):List Nat:=Gd (B.set 0 ((B.getD 0 0+5) % 18446744073709551616)) 4
def lsE (B b:List Nat):List Nat:=if b.getD 4 0 / 67108864=0 then B else b.set 4 (b.getD 4 0 &&& 67108863)
def Hg (A:List Nat):List Nat:=lsE (Cp (Cp A)) (Xa (Cp (Cp A)))
def Np (h:b.length=5) (i:Nat):(Gd b i).length=5:=by
 induction i with
 | zero=>exact h
 | succ i e=>simp[Gd,lsS,e]
def Wo (h:hI b) (i:Nat):hI (Gd b i):=by
 induction i with
 | zero=>exact h
 | succ i e=>exact (e.set _ _ (gx _ d_)).set _ _ (Nat.lt_of_le_of_lt Nat.and_le_right d_)
def Mx (h:B.length=5):(Xa B).length=5:=Np (by simp[h]) 4
def Vt (h:hI B):hI (Xa B):=Wo (h.set _ _ (gx _ d_)) 4
def YD (h:B.length=5) (k:b.length=5):(lsE B b).length=5:=by unfold lsE;split<;>simp[h,k]
def LX (h:A.length=5):(Hg A).length=5:=YD (w_H (w_H h)) (Mx (w_H (w_H h)))
def cyE_lt {s:Nat × List Nat} (h:hI s.2):hI (cyE s) :=
 ((h.set _ _ (gx _ d_)).set _ _ (gx _ d_)).set _ _ (Nat.lt_of_le_of_lt Nat.and_le_right d_)
def v_m (h:hI A):hI (Cp A):=cyE_lt (cyI_lt h 5)
def lsF_lt (h:hI A):hI (Hg A):=by
 unfold Hg lsE;split
 ·exact v_m (v_m h)
 exact (Vt (v_m (v_m h))).set _ _ (Nat.lt_of_le_of_lt Nat.and_le_right d_)
def Rx (w:W_) (p t:Nat) (A:List Nat) (Z:A.length=5) (H:hI A) (h1:ab w p t (uq A).toArray) :
  Cl 263 #[.pointer (some ⟨p,0,none⟩)] w fun e w'=>e=.returned (.tuple #[])/\ab w' p t (uq (Hg A)).toArray/\Kp (·=p) w w':=by
 have k:=Zz h1;have y3:Hid (Hg A=lsE (Cp (Cp A)) (Xa (Cp (Cp A)))):=Zz rfl;have H1:=Zz (w_H Z);have a:=Zz (w_H (w_H Z));have H3:=Zz (v_m H);have K:=Zz (v_m (v_m H));clear h1;generalize Hg A=R at *;go_enter func263,ntmps263;go_wp2_with fail;refine (mC _ p t A Z H k.o).mono ?_;rintro e w1 ⟨rfl,h8,h9⟩;have h4:=Zz h8;have h5:=Zz h9;clear h8 h9 k;go_wp2_with fail;refine (mC _ p t (Cp A) H1.o H3.o h4.o).mono ?_;rintro e l ⟨rfl,h7,h6⟩;have O:=Zz h7;have X:=Zz (h5.o.trans h6);clear h7 h6 h4 h5;generalize Cp (Cp A)=B at *
 have I:(uq B).toArray.size=5:=by rw[tK,x_o,a.o]
 have x2:=my B
 go_wp2_with (first
  | (refine wpList_load_row rfl 341 (.tmp 9) rfl p rfl t _ (0,0) _ O.o underlying341 rfl (by rw[I];exact SI) ?_)
  | (refine wpList_store_row rfl 341 (.tmp 2) (.tmp 10) rfl l.heap.size _ rfl rfl 341 _ (ab.new l _ _) (by rw[I];exact SI) (by rw[I];rfl) x2 ?_;go_must (
    have q:=Zz ((ab.new l 341 #[.int .u64 0,.int .u64 0,.int .u64 0,.int .u64 0,.int .u64 0]).setRow (cs':=(uq B).toArray));have F:=Zz ((X.o.alloc (.cells #[.int .u64 0,.int .u64 0,.int .u64 0,.int .u64 0,.int .u64 0] 341)).setRow l.heap.size (uq B).toArray (.inr X.o.size));have hb:=Zz ((O.o.alloc (.cells #[.int .u64 0,.int .u64 0,.int .u64 0,.int .u64 0,.int .u64 0] 341)).farRow (g:=l.heap.size) (cs':=(uq B).toArray) (lI O.o.lt));have f:=Zz O.o.lt;have o:=X.o.size;obtain ⟨G,hG⟩:∃G,l.heap.size=G:=⟨_,rfl⟩;obtain ⟨w3,H5⟩:∃w3,(l.alloc (.cells #[.int .u64 0,.int .u64 0,.int .u64 0,.int .u64 0,.int .u64 0] 341)).setRow l.heap.size (uq B).toArray=w3:=⟨_,rfl⟩;rw[H5] at q F hb ⊢;rw[hG] at q f o ⊢;have Q:=Zz o;clear H5 hG o;have s:=oI q.o 0 (by rw[a.o];decide);have fz:=q.o.frozen 0;obtain ⟨v,hv⟩:∃v,(B.getD 0 0+5) % 18446744073709551616=v:=⟨_,rfl⟩;have h2:=Zz hv;generalize E:B.getD 0 0=x at *;have x6:=Zz E;clear E
    have hs:IntKind.u64.wrap ((x:Int)+5)=(v:Int):=by rw[ie];omega
    clear hv))
  | fail)
 have h3:Hid (ab (w3.setCell ⟨G,0,none⟩ (.int .u64 v)) G 341 (uq (Gd (B.set 0 v) 0)).toArray):=Zz (RF q.o 0 v);have N:=Zz (hb.o.far (p:=⟨G,0,none⟩) (lI f.o) (.int .u64 v));have J:=Zz (F.o.setCell ⟨G,0,none⟩ (.int .u64 v) (.inr Q.o))
 have x0:(B.set 0 v).length=5:=by rw[iO,a.o]
 have y5:hI (B.set 0 v):=K.o.set _ _ (by rw[<-h2.o];exact gx _ d_);have x9:Hid (Xa B=Gd (B.set 0 v) 4):=Zz (by unfold Xa;rw[show B.getD 0 0=x from x6.o,h2.o]);clear q F hb s fz hs;generalize w3.setCell ⟨G,0,none⟩ (.int .u64 v)=w4 at *;generalize B.set 0 v=b at *
 go_loopw [3,15] (fun _ D wr=>∃i:Nat,i<=4/\D=.int .i64 i/\Hid (ab wr G 341 (uq (Gd b i)).toArray)/\Hid (ab wr p t (uq B).toArray)/\Hid (Kp (·=p) w wr)) (fun _ D _=>4-(intOf D).toNat)
 case atStart=>exact ⟨0,o_,rfl,h3,N,J⟩
 case round =>
  clear h3 N J;obtain ⟨i,hi,rfl,j,k,M⟩:=hrel;by_cases W:i<4
  ·have y9:(i:Int)<4:=o_
   have r:=Np x0 i;have y1:=Zz (Wo y5 i);have H6:Hid (Gd b (i+1)=((Gd b i).set (i+1) (((Gd b i).getD (i+1) 0+(Gd b i).getD i 0 / 67108864) % 18446744073709551616)).set i ((Gd b i).getD i 0 &&& 67108863)):=Zz rfl;have s:=oI j.o i (by rw[r];omega);have Y:=oI j.o (i+1) (by rw[r];omega);have fz:=j.o.frozen (i+1);have H4:=y1.o i;generalize Gd b i=L at *;obtain ⟨n,hn⟩:∃n,i+1=n:=⟨_,rfl⟩;have zf:(i:Int)+1=(n:Int):=o_;have y7:(n:Int)<5:=o_;have x7:(i:Int)<5:=o_
   have y6:IntKind.i64.wrap (n:Int)=(n:Int):=by rw[eM];omega
   have U:=Zz hn;rw[hn] at Y fz;clear hn;generalize E:L.getD i 0=h at *;have V:=Zz E;clear E;obtain ⟨u,H0⟩:∃u,(L.getD n 0+h / 67108864) % 18446744073709551616=u:=⟨_,rfl⟩;have H7:=Zz H0;generalize H2:L.getD n 0=y at *;have H8:=Zz H2;clear H2
   have y0:IntKind.u64.wrap ((y:Int)+(h:Int) / 67108864)=(u:Int):=by rw[ie];omega
   clear H0;have d0:wr.drew.cell? ⟨G,i,none⟩=_:=s;have d1:wr.drew.cell? ⟨G,n,none⟩=_:=Y;have x5:wr.drew.frozen? ⟨G,n,none⟩=_:=fz
   go_upto_region 7 with fail
   go_still_tail 9,k_
   go_upto_region 8 with fail
   have z:=Zz (RF j.o n u).drew;have d:=Zz (k.o.far (p:=⟨G,n,none⟩) (lI f.o) (.int .u64 u)).drew;have P:=Zz (M.o.setCell ⟨G,n,none⟩ (.int .u64 u) (.inr Q.o)).drew;clear d0 d1 x5 s Y fz j k M y0;generalize (wr.setCell ⟨G,n,none⟩ (.int .u64 u)).drew=y4 at *;have s:=oI z.o i (by rw[iO,r];omega);rw[show (L.set n u).getD i 0=h by rw[be,BA,if_neg (by have:=U.o;omega),<-be];exact V.o] at s;have fz:=z.o.frozen i;have x8:bits .and .u64 (h:Int) 67108863=((h &&& 67108863:Nat):Int):=kK h 67108863 H4 d_;have x3:Hid (ab (y4.setCell ⟨G,i,none⟩ (.int .u64 (h &&& 67108863:Nat))) G 341 (uq (Gd b (i+1))).toArray):=Zz (by rw[H6.o,U.o,H8.o,H7.o];exact RF z.o i _);have N:=Zz (d.o.far (p:=⟨G,i,none⟩) (lI f.o) (.int .u64 (h &&& 67108863:Nat)));have J:=Zz (P.o.setCell ⟨G,i,none⟩ (.int .u64 (h &&& 67108863:Nat)) (.inr Q.o));generalize h &&& 67108863=m at *;clear r H4 z d P;have h0:Hid ((n:Int)=((i+1:Nat):Int)/\i+1<=4):=Zz (by have:=U.o;omega);go_wp2;go_roundw
   case rel=>exact ⟨i+1,h0.o.2,by rw[<-h0.o.1],x3,N,J⟩
   case measure=>simp[intOf];omega
  obtain rfl:i=4:=o_;have H9:Hid (Gd b 4=Xa B):=Zz x9.o.symm;rw[H9.o] at j;have r:=Mx a.o;have W:=(Vt K.o) 4;have c:Hid (R=if (Xa B).getD 4 0 / 67108864=0 then B else (Xa B).set 4 ((Xa B).getD 4 0 &&& 67108863)):=Zz y3.o;generalize Xa B=L at *;have x4:=oI j.o 4 (by rw[r];decide);have fz:=j.o.frozen 4;have y8:=k.o.lt;obtain ⟨x,C⟩:∃x,L.getD 4 0=x:=⟨_,rfl⟩;have V:=Zz C;rw[C] at x4 W;clear C;rw[V.o] at c;by_cases T:x / 67108864=0
  ·have x1:(x:Int) / 67108864=0:=o_
   have S:R=B:=by rw[c.o,if_pos T]
   clear T c;go_wp2
   go_end0
   exact ⟨rfl,by rw[S];exact k.o,M.o⟩
  have x1:¬(x:Int) / 67108864=0:=o_
  have S:R=L.set 4 (x &&& 67108863):=by rw[c.o,if_neg T]
  have HR:=Zz S;clear S T c;have x8:bits .and .u64 (x:Int) 67108863=((x &&& 67108863:Nat):Int):=kK x 67108863 W d_;have z:Hid (ab (wr.setCell ⟨G,4,none⟩ (.int .u64 (x &&& 67108863:Nat))) G 341 (uq R).toArray):=Zz (by rw[HR.o];exact RF j.o 4 _);have d:=Zz (k.o.far (p:=⟨G,4,none⟩) (lI f.o) (.int .u64 (x &&& 67108863:Nat)));have P:=Zz (M.o.setCell ⟨G,4,none⟩ (.int .u64 (x &&& 67108863:Nat)) (.inr Q.o))
  have o:(uq R).toArray.size=5:=by rw[HR.o,tK,x_o,iO,r]
  have I:(uq B).toArray.size=5:=by rw[tK,x_o,a.o]
  have y2:=my R;generalize x &&& 67108863=m at *
  go_wp2_with (first
   | (refine wpList_load_row rfl 341 (.tmp 2) rfl G rfl 341 _ (0,0) _ z.o underlying341 rfl (by rw[o];exact SI) ?_)
   | (refine wpList_store_row rfl 341 (.tmp 44) (.tmp 43) rfl p _ rfl rfl t _ d.o (by rw[o];exact SI) (by rw[o,I]) y2 ?_))
  go_end0
  exact ⟨rfl,d.o.setRow,P.o.setRow p _ (.inl rfl)⟩
def ofW (a b c d above:Nat):List Nat:=[a &&& 67108863,(a / 67108864 ||| b*64) &&& 67108863,(b / 1048576 ||| c*4096) &&& 67108863,(c / 16384 ||| d*262144) &&& 67108863,d / 256 ||| above*16777216]
def EW (l:List UInt8) (above:Nat):List Nat:=ofW ((iU l).getD 0 0) ((iU l).getD 1 0) ((iU l).getD 2 0) ((iU l).getD 3 0) above
def Nq (l:List UInt8) (n:Nat):(EW l n).length=5:=rfl
def w_F {a b:Nat} (ha:a<18446744073709551616) (hb:b<18446744073709551616):a ||| b<18446744073709551616:=Nat.or_lt_two_pow (n:=64) ha hb
def ko (x:Nat):x &&& 67108863<18446744073709551616:=Nat.lt_of_le_of_lt Nat.and_le_right d_
def x_M {x:Nat} (e:x<18446744073709551616) (h:hI L):hI (x::L):=by
 intro i;rw[be]
 cases i with
 | zero=>rw[List.getElem?_cons_zero,Option.getD_some];exact e
 | succ i=>rw[List.getElem?_cons_succ,<-be];exact h i
def MP:hI []:=by
 intro i;rw[be,List.getElem?_nil,Option.getD_none];decide
def ofW_lt {a b c d:Nat} (e:d<4294967296) (hn:n<=1):hI (ofW a b c d n) :=
 x_M (ko _) (x_M (ko _) (x_M (ko _) (x_M (ko _) (x_M (w_F o_ o_) MP))))
def v_N (l:List UInt8) (i:Nat):(iU l).getD i 0<4294967296:=by
 unfold iU;rw[be,gq]
 cases h:(List.range (l.length / 4))[i]? with
 | none=>rw[Option.map_none,Option.getD_none];decide
 | some j=>rw[Option.map_some,Option.getD_some];exact TB l j
def ofF_lt (l:List UInt8) (hn:n<=1):hI (EW l n):=ofW_lt (v_N l 3) hn
def F_ (L:List Nat) (i:Nat):List Nat:=(List.range 4).map fun j=>if j<i then L.getD j 0 else 0
def j_ (L:List Nat) (i:Nat):(F_ L i).length=4:=by simp[F_]
def ofI_set (L:List Nat) (i:Nat) (h:i<4):(F_ L i).set i (L.getD i 0)=F_ L (i+1):=AW (fun j=>L.getD j 0) 4 i h
def zerosQ4:(#[.int .u64 0,.int .u64 0,.int .u64 0,.int .u64 0]:Array Value)=(uq (List.replicate 4 0)).toArray:=rfl
def WI (L:List Nat):F_ L 0=List.replicate 4 0:=rfl
def Fm (w:W_) (l:List UInt8) (hl:l.length=16) (n:Nat) (hn:n<=1) :
  Cl 261 #[.string (bs l),.int .u64 n] w fun e w'=>e=.returned (.agg (uq (EW l n)).toArray)/\Kp ac w w':=by
 have I:=Zz (fun W=>v_D W (bs l) (by rw[cG];omega) (by rw[cG];omega));have r:=v_N l;have f:Hid (EW l n=ofW ((iU l).getD 0 0) ((iU l).getD 1 0) ((iU l).getD 2 0) ((iU l).getD 3 0) n):=Zz rfl
 have a:(iU l).length=4:=by simp[iU,hl]
 simp only[AT] at I;generalize iU l=L at *;generalize EW l n=R at *;go_enter func261,ntmps261
 go_upto_region 1 with fail
 have u:=Zz (ab.new w 341 (uq (List.replicate 5 0)).toArray);have M:=Zz ((Kp.refl ac w).alloc (.cells (uq (List.replicate 5 0)).toArray 341));rw[yv];generalize w.alloc (.cells (uq (List.replicate 5 0)).toArray 341)=h4 at *;go_wp2_with fail;refine (I.o _).mono ?_;rintro e q ⟨v,rfl,b,hb⟩;have o:=Zz b;have s:=Zz (u.o.below hb u.o.lt);have z:=Zz (M.o.trans (Kp.of_below hb _));obtain ⟨P,c,rfl,h8,x5,x6⟩:=b.form (by rw[ft,a];decide);rw[ft,a] at o ⊢;clear hb b u M;obtain ⟨G,hG⟩:∃G,w.heap.size=G:=⟨_,rfl⟩;rw[hG] at s ⊢;have x7:=s.o.lt;have h1:=Zz hG;clear hG
 go_upto_region 4 with fail
 have V:=Zz (ab.new q 350 (uq (F_ L 0)).toArray);rw[zerosQ4,<-WI L];have U:=Zz (o.o.alloc (.cells (uq (F_ L 0)).toArray 350));have J:=Zz (s.o.alloc (.cells (uq (F_ L 0)).toArray 350));have O:=Zz (z.o.alloc (.cells (uq (F_ L 0)).toArray 350));have A:P≠q.heap.size:=o_;have Z:G≠q.heap.size:=o_;have h3:w.heap.size<=q.heap.size:=z.o.size;generalize q.alloc (.cells (uq (F_ L 0)).toArray 350)=w3 at *;generalize q.heap.size=K at *;clear o s z
 go_loopw [8,14] (fun _ d wr=>∃i:Nat,i<=4/\d=.int .i64 i/\Hid (ab wr K 350 (uq (F_ L i)).toArray)/\Hid (aH wr h4.heap.size 213 (.slice (some ⟨P,0,none⟩) 4 c) (uv L))/\Hid (ab wr G 341 (uq (List.replicate 5 0)).toArray)/\Hid (Kp ac w wr)) (fun _ d _=>4-(intOf d).toNat)
 case atStart=>exact ⟨0,o_,rfl,V,U,J,O⟩
 case round =>
  clear V U J O;obtain ⟨i,H8,rfl,m,o,t,E⟩:=hrel;by_cases N:i<4
  ·have H4:(i:Int)<4:=o_
   have Q:=x_8 o.o a i o_;have S:=oI m.o i (by rw[j_];exact N);have fz:=m.o.frozen i;have H9:=r i;have X:=Zz (ofI_set L i N);generalize L.getD i 0=x at *;have h9:(x:Int) % 18446744073709551616=(x:Int):=o_;have D:Hid (ab (wr.setCell ⟨K,i,none⟩ (.int .u64 x)) K 350 (uq (F_ L (i+1))).toArray):=Zz (by rw[<-X.o];exact RF m.o i x);have h2:=Zz (o.o.far (p:=⟨K,i,none⟩) (by simp[Value.ownBlock];exact A) (.int .u64 x));have h0:=Zz (t.o.far (p:=⟨K,i,none⟩) Z (.int .u64 x));have C:=Zz (E.o.setCell ⟨K,i,none⟩ (.int .u64 x) (.inr h3));go_wp2;go_roundw
   case rel=>exact ⟨i+1,o_,by go_num,D,h2,h0,C⟩
   case measure=>simp[intOf];omega
  obtain rfl:i=4:=o_;have H5:=r 0;have H7:=r 1;have H6:=r 2;have x0:=r 3;have Q:=oI m.o 0 (by rw[j_];decide);have S:=oI m.o 1 (by rw[j_];decide);have F:=oI m.o 2 (by rw[j_];decide);have H:=oI m.o 3 (by rw[j_];decide);rw[show (F_ L 4).getD 0 0=L.getD 0 0 from rfl] at Q;rw[show (F_ L 4).getD 1 0=L.getD 1 0 from rfl] at S;rw[show (F_ L 4).getD 2 0=L.getD 2 0 from rfl] at F;rw[show (F_ L 4).getD 3 0=L.getD 3 0 from rfl] at H;generalize L.getD 0 0=j at *;generalize L.getD 1 0=g at *;generalize L.getD 2 0=h at *;generalize L.getD 3 0=k at *;have H0:bits .and .u64 (j:Int) 67108863=((j &&& 67108863:Nat):Int):=kK j 67108863 o_ d_;have x1:bits .or .u64 ((j:Int) / 67108864) ((g:Int)*64)=((j / 67108864 ||| g*64:Nat):Int):=E1 (j / 67108864) (g*64) o_ o_;have x2:bits .or .u64 ((g:Int) / 1048576) ((h:Int)*4096)=((g / 1048576 ||| h*4096:Nat):Int):=E1 (g / 1048576) (h*4096) o_ o_;have x3:bits .or .u64 ((h:Int) / 16384) ((k:Int)*262144)=((h / 16384 ||| k*262144:Nat):Int):=E1 (h / 16384) (k*262144) o_ o_;have x4:bits .or .u64 ((k:Int) / 256) ((n:Int)*16777216)=((k / 256 ||| n*16777216:Nat):Int):=E1 (k / 256) (n*16777216) o_ o_;have H1:bits .and .u64 ((j / 67108864 ||| g*64:Nat):Int) 67108863=(((j / 67108864 ||| g*64) &&& 67108863:Nat):Int):=kK _ 67108863 (w_F o_ o_) d_;have H2:bits .and .u64 ((g / 1048576 ||| h*4096:Nat):Int) 67108863=(((g / 1048576 ||| h*4096) &&& 67108863:Nat):Int):=kK _ 67108863 (w_F o_ o_) d_;have H3:bits .and .u64 ((h / 16384 ||| k*262144:Nat):Int) 67108863=(((h / 16384 ||| k*262144) &&& 67108863:Nat):Int):=kK _ 67108863 (w_F o_ o_) d_;have HR:Hid (R=[j &&& 67108863,(j / 67108864 ||| g*64) &&& 67108863,(g / 1048576 ||| h*4096) &&& 67108863,(h / 16384 ||| k*262144) &&& 67108863,k / 256 ||| n*16777216]):=Zz f.o;generalize j &&& 67108863=y0 at *;generalize j / 67108864 ||| g*64=h5 at *;generalize h5 &&& 67108863=y1 at *;generalize g / 1048576 ||| h*4096=h6 at *;generalize h6 &&& 67108863=y2 at *;generalize h / 16384 ||| k*262144=h7 at *;generalize h7 &&& 67108863=y3 at *;generalize k / 256 ||| n*16777216=y4 at *;have B:=my R
  have y:(uq R).toArray.size=5:=by rw[HR.o];rfl
  have T:(#[.int .u64 y0,.int .u64 y1,.int .u64 y2,.int .u64 y3,.int .u64 y4]:Array Value)=(uq R).toArray:=by rw[HR.o];rfl
  have Y:=Zz T;clear T f
  go_wp2_with (first
   | (refine wpList_store_row rfl 341 (.tmp 4) (.tmp 58) rfl G (uq R).toArray rfl (by rw[<-Y.o];rfl) 341 _ t.o (by rw[y];exact SI) (by rw[y];rfl) B ?_)
   | fail)
  (try simp only[Exit.inBlock,Exit.then])
  refine bodyPost_ret (x_s rfl rfl t.o.setRow underlying341 rfl (by rw[y];exact SI)) rfl ?_;exact ⟨rfl,E.o.setRow G _ (.inr (Nat.le_of_eq h1.o))⟩
def plW (A:List Nat):List Nat:=[A.getD 0 0 ||| A.getD 1 0*67108864 % 18446744073709551616,A.getD 1 0 / 64 ||| A.getD 2 0*1048576 % 18446744073709551616,A.getD 2 0 / 4096 ||| A.getD 3 0*16384 % 18446744073709551616,A.getD 3 0 / 262144 ||| A.getD 4 0*256 % 18446744073709551616]
def plS (W L:List Nat) (s:Nat × List Nat) (i:Nat):Nat × List Nat:=((s.1+((W.getD i 0 &&& 4294967295)+L.getD i 0)) / 4294967296,s.2.set i ((s.1+((W.getD i 0 &&& 4294967295)+L.getD i 0)) % 4294967296))
def A7 (W L:List Nat):Nat->Nat × List Nat
 | 0=>(0,List.replicate 4 0)
 | i+1=>plS W L (A7 W L i) i
def plF (A:List Nat) (l:List UInt8):List UInt8:=oO (A7 (plW A) (iU l) 4).2
def yA (W L:List Nat) (i:Nat):(A7 W L i).2.length=4:=by
 induction i with
 | zero=>rfl
 | succ i e=>simp[A7,plS,e]
def plI_c {W:List Nat} (e:∀i,L.getD i 0<4294967296) (i:Nat):(A7 W L i).1<4294967296:=by
 induction i with
 | zero=>show 0<_;decide
 | succ i j =>
  have g:W.getD i 0 &&& 4294967295<=4294967295:=Nat.and_le_right;have h:=e i;show (_+(_+_)) / 4294967296<_;omega
def plW_lt (h:hI A):hI (plW A) :=
 x_M (w_F (h 0) (gx _ d_)) (x_M (w_F (Nat.lt_of_le_of_lt (Nat.div_le_self _ _) (h 1)) (gx _ d_)) (x_M (w_F (Nat.lt_of_le_of_lt (Nat.div_le_self _ _) (h 2)) (gx _ d_)) (x_M (w_F (Nat.lt_of_le_of_lt (Nat.div_le_self _ _) (h 3)) (gx _ d_)) MP)))
def plF_len (A:List Nat) (l:List UInt8):(plF A l).length=16:=by unfold plF;rw[v_x,yA]
def Vv (w:W_) (A:List Nat) (n:A.length=5) (o:hI A) (l:List UInt8) (hl:l.length=16) :
  Cl 264 #[.agg (uq A).toArray,.string (bs l)] w fun e w'=>e=.returned (.string (bs (plF A l)))/\Kp ac w w':=by
 have h8:=Zz (fun W=>v_D W (bs l) (by rw[cG];omega) (by rw[cG];omega));have H8:=v_N l;have x6:Hid (plF A l=oO (A7 (plW A) (iU l) 4).2):=Zz rfl
 have F:(iU l).length=4:=by simp[iU,hl]
 have x9:=Zz (plW_lt o);have H9:Hid (plW A=[A.getD 0 0 ||| A.getD 1 0*67108864 % 18446744073709551616,A.getD 1 0 / 64 ||| A.getD 2 0*1048576 % 18446744073709551616,A.getD 2 0 / 4096 ||| A.getD 3 0*16384 % 18446744073709551616,A.getD 3 0 / 262144 ||| A.getD 4 0*256 % 18446744073709551616]):=Zz rfl;have NC:=Zz (show (uq A).toArray.size=5 by rw[tK,x_o,n]);simp only[AT] at h8;generalize iU l=L at *;generalize plF A l=R at *;go_enter func264,ntmps264
 go_upto_region 1 with fail
 have B:=Zz (ab.new w 341 (uq A).toArray);have b:=Zz ((Kp.refl ac w).alloc (.cells (uq A).toArray 341));generalize w.alloc (.cells (uq A).toArray 341)=w1 at *;go_wp2_with fail;refine (h8.o _).mono ?_;rintro e f ⟨v,rfl,h0,hb⟩;have j:=Zz h0;have g:=Zz (B.o.below hb B.o.lt);have d:=Zz (b.o.trans (Kp.of_below hb _));obtain ⟨P,c,rfl,ET,tY,xv⟩:=h0.form (by rw[ft,F];decide);rw[ft,F] at j ⊢;clear hb h0 B b;obtain ⟨G,hG⟩:∃G,w.heap.size=G:=⟨_,rfl⟩;rw[hG] at g ⊢;have zJ:=g.o.lt;have cq:=Zz hG;clear hG;have H3:=o 0;have ff:=o 1;have fB:=o 2;have kC:=o 3;have l9:=o 4;have Q:=oI g.o 0 (by rw[n];decide);have S:=oI g.o 1 (by rw[n];decide);have c2:=oI g.o 2 (by rw[n];decide);have c3:=oI g.o 3 (by rw[n];decide);have c4:=oI g.o 4 (by rw[n];decide);generalize y4:plW A=W at *;generalize A.getD 0 0=T at *;generalize A.getD 1 0=t at *;generalize A.getD 2 0=u at *;generalize A.getD 3 0=a at *;generalize A.getD 4 0=x4 at *;have H:=H9.o;clear H9 y4;obtain ⟨E,H1⟩:∃z,t*67108864 % 18446744073709551616=z:=⟨_,rfl⟩;obtain ⟨I,H2⟩:∃z,u*1048576 % 18446744073709551616=z:=⟨_,rfl⟩;obtain ⟨J,h7⟩:∃z,a*16384 % 18446744073709551616=z:=⟨_,rfl⟩;obtain ⟨M,h5⟩:∃z,x4*256 % 18446744073709551616=z:=⟨_,rfl⟩;rw[H1,H2,h7,h5] at H
 have s1:IntKind.u64.wrap ((t:Int)*67108864)=(E:Int):=by rw[ie];omega
 have s2:IntKind.u64.wrap ((u:Int)*1048576)=(I:Int):=by rw[ie];omega
 have s3:IntKind.u64.wrap ((a:Int)*16384)=(J:Int):=by rw[ie];omega
 have s4:IntKind.u64.wrap ((x4:Int)*256)=(M:Int):=by rw[ie];omega
 have o1:bits .or .u64 (T:Int) (E:Int)=((T ||| E:Nat):Int):=E1 T E H3 o_;have o2:bits .or .u64 ((t:Int) / 64) (I:Int)=((t / 64 ||| I:Nat):Int):=E1 (t / 64) I o_ o_;have o3:bits .or .u64 ((u:Int) / 4096) (J:Int)=((u / 4096 ||| J:Nat):Int):=E1 (u / 4096) J o_ o_;have o4:bits .or .u64 ((a:Int) / 262144) (M:Int)=((a / 262144 ||| M:Nat):Int):=E1 (a / 262144) M o_ o_;clear H1 H2 h7 h5;generalize T ||| E=y0 at *;generalize t / 64 ||| I=y1 at *;generalize u / 4096 ||| J=y2 at *;generalize a / 262144 ||| M=y3 at *;have k:=Zz H;clear H
 go_upto_region 3 with fail
 have x1:(#[.int .u64 y0,.int .u64 y1,.int .u64 y2,.int .u64 y3]:Array Value)=(uq W).toArray:=by rw[k.o];rfl
 rw[x1]
 have y5:W.length=4:=by rw[k.o];rfl
 have H7:=Zz (ab.new f 350 (uq W).toArray);have H5:=Zz (j.o.alloc (.cells (uq W).toArray 350));have h9:=Zz (d.o.alloc (.cells (uq W).toArray 350));have x3:(f.alloc (.cells (uq W).toArray 350)).heap.size=f.heap.size+1:=s_;have hKl:=d.o.size;generalize f.alloc (.cells (uq W).toArray 350)=w3 at *;generalize f.heap.size=K at *;have x0:=Zz x3;clear j g d Q S c2 c3 c4 s1 s2 s3 s4 o1 o2 o3 o4 x1 H3 ff fB kC l9 x3;have C:(Instr.makeSlice 215 (.int .i64 4) (.int .i64 4)).run prog w3=.ok (.slice (some ⟨w3.heap.size,0,none⟩) 4 4) (w3.alloc (.cells (madeCells #[.int .u32 0] 4) 213)):=z_av 4 d_ w3;have D:=aH.made_words w3 w3.heap.size 4 (bS _) d_;have Y:=Zz (H7.o.alloc (.cells (madeCells #[.int .u32 0] 4) 213));have h1:=Zz (H5.o.alloc (.cells (madeCells #[.int .u32 0] 4) 213));have h4:=Zz (h9.o.alloc (.cells (madeCells #[.int .u32 0] 4) 213));obtain ⟨h3,h6⟩:∃h3,w3.alloc (.cells (madeCells #[.int .u32 0] 4) 213)=h3:=⟨_,rfl⟩;rw[h6] at C D Y h1 h4;have h2:Hid (aH h3 w3.heap.size 213 (.slice (some ⟨w3.heap.size,0,none⟩) 4 4) (uv (A7 W L 0).2)):=Zz D;have y6:w3.heap.size=K+1:=x0.o;rw[y6] at C h2;clear h6 D H7 H5 h9 x0
 go_upto_region 5 with fail
 clear C
 go_loopw [9,10,45] (fun s9 _ Z wr=>∃i:Nat,i<=4/\Z=.int .i64 i/\s9=.int .u64 ((A7 W L i).1:Nat)/\Hid (aH wr (K+1) 213 (.slice (some ⟨K+1,0,none⟩) 4 4) (uv (A7 W L i).2))/\Hid (ab wr K 350 (uq W).toArray)/\Hid (aH wr w1.heap.size 213 (.slice (some ⟨P,0,none⟩) 4 c) (uv L))/\Hid (Kp ac w wr)) (fun _ _ Z _=>4-(intOf Z).toNat)
 case atStart=>exact ⟨0,o_,rfl,rfl,h2,Y,h1,h4⟩
 case round =>
  clear h2 Y h1 h4;obtain ⟨i,hi,rfl,rfl,X,k,j,U⟩:=hrel;by_cases y8:i<4
  ·have bB:(i:Int)<4:=o_
   have Q:=x_8 j.o F i o_;have S:=oI k.o i (by rw[y5];exact y8);have hc:=plI_c (W:=W) H8 i;have H0:=yA W L i;have hx:=H8 i;have hy:=x9.o i;have V:Hid (A7 W L (i+1)=(((A7 W L i).1+((W.getD i 0 &&& 4294967295)+L.getD i 0)) / 4294967296,(A7 W L i).2.set i (((A7 W L i).1+((W.getD i 0 &&& 4294967295)+L.getD i 0)) % 4294967296))):=Zz rfl;generalize (A7 W L i).1=q at *;generalize (A7 W L i).2=O at *;generalize L.getD i 0=x at *;generalize W.getD i 0=y at *;have ig:bits .and .u64 (y:Int) 4294967295=((y &&& 4294967295:Nat):Int):=kK y 4294967295 hy d_;have hm:y &&& 4294967295<=4294967295:=Nat.and_le_right;generalize y &&& 4294967295=m at *
   have y7:IntKind.u64.wrap (x:Int)=(x:Int):=by rw[ie];omega
   have fH:IntKind.u64.wrap ((m:Int)+(x:Int))=((m+x:Nat):Int):=by rw[ie];omega
   have fk:m+x<8589934592:=o_;generalize m+x=s at *
   have xh:IntKind.u64.wrap ((q:Int)+(s:Int))=((q+s:Nat):Int):=by rw[ie];omega
   have gz:q+s<17179869184:=o_;generalize q+s=r at *;have d0:wr.drew.cell? ⟨P,i,none⟩=_:=Q;have d1:wr.drew.cell? ⟨K,i,none⟩=_:=S;have N:=Zz X.o.drew;have H4:=Zz k.o.drew;have x2:=Zz j.o.drew;have b:=Zz U.o.drew
   go_upto_region 7 with fail
   go_still k_
   change Exit.then _ _ _ _ wr.drew;clear Q S d0 d1 X k j U y7 fH xh;generalize wr.drew=w5 at *;have cu:=x_8 N.o H0 i o_;have fz:=N.o.frozen i;have y9:Hid (aH (w5.setCell ⟨K+1,i,none⟩ (.int .u32 (r % 4294967296:Nat))) (K+1) 213 (.slice (some ⟨K+1,0,none⟩) 4 4) (uv (A7 W L (i+1)).2)):=Zz (by rw[V.o];exact tD N.o H0 i _);have fK:Hid ((A7 W L (i+1)).1=r / 4294967296):=Zz (by rw[V.o]);have x7:=Zz (H4.o.far (p:=⟨K+1,i,none⟩) (by show K≠K+1;omega) (.int .u32 (r % 4294967296:Nat)));have iH:=Zz (x2.o.far (p:=⟨K+1,i,none⟩) (by simp[Value.ownBlock];omega) (.int .u32 (r % 4294967296:Nat)));have d:=Zz (b.o.setCell ⟨K+1,i,none⟩ (.int .u32 (r % 4294967296:Nat)) (.inr (by show _<=K+1;omega)));clear V N H4 x2 b
   have Xr:IntKind.u32.wrap (r:Int)=((r % 4294967296:Nat):Int):=by rw[IntKind.wrap_u32];omega
   have Xs:(r:Int) / 4294967296=((r / 4294967296:Nat):Int):=o_;generalize r % 4294967296=rm at *;generalize r / 4294967296=rd at *;go_wp2;go_roundw
   case rel=>exact ⟨i+1,o_,by go_num,by rw[fK.o],y9,x7,iH,d⟩
   case measure=>simp[intOf];omega
  obtain rfl:i=4:=o_;have x5:=X.o.reads;have H6:=Zz (fun x8 h=>w_2 x8 (.slice (some ⟨K+1,0,none⟩) 4 4) (A7 W L 4).2 h (by rw[yA];decide));rw[<-x6.o] at H6;go_wp2_with fail;refine (H6.o _ x5).mono ?_;rintro e w6 ⟨rfl,eT⟩;go_wp2;go_ret;exact ⟨rfl,U.o.trans (Kp.of_below eT _)⟩
def ev.kp {S:Nat->Prop} {w':W_} {g e:Nat} {l:List UInt8} (h:ev w g l e) (hb:Kp S w w') (hg:¬S g):ev w' g l e:=by
 have i:=h.lt;obtain ⟨j,k,cs,fr,m,rest⟩:=h;exact ⟨j,k,cs,fr,(hb.block g i hg).trans m,rest⟩
def clB (i:Nat) (x:UInt8):UInt8:=if i % 4=3 then x &&& 15 else if i % 4=0/\0<i then x &&& 252 else x
def vV (l:List UInt8) (i:Nat):List UInt8:=(List.range l.length).map fun j=>if j<i then clB j (l.getD j 0) else l.getD j 0
def Su (l:List UInt8):List UInt8:=vV l l.length
def qP (l:List UInt8) (i:Nat):(vV l i).length=l.length:=by simp[vV]
def PP (l:List UInt8):(Su l).length=l.length:=qP l _
def clI_at (l:List UInt8) (i j:Nat) (e:j<l.length):(vV l i).getD j 0=if j<i then clB j (l.getD j 0) else l.getD j 0:=by
 unfold vV;rw[be,gq,pB e];rfl
def Yw (l:List UInt8):vV l 0=l:=by
 refine i2 (by simp[vV]) fun j g e=>?_;simp[vV,be,e]
def M2 (l:List UInt8) (i:Nat) (k:i<l.length):(vV l i).set i (clB i (l.getD i 0))=vV l (i+1):=by
 refine i2 (by simp[vV]) fun j g h=>?_;rw[List.getElem_set];by_cases e:i=j
 ·subst e;rw[if_pos rfl];simp[vV]
 rw[if_neg e]
 have:(j<i)=(j<i+1):=by rw[eq_iff_iff];omega
 simp only[vV,List.getElem_map,List.getElem_range,this]
def V_ (l:List UInt8) (i:Nat) (g:i<l.length) (h:clB i (l.getD i 0)=l.getD i 0):vV l i=vV l (i+1):=by
 rw[<-M2 l i g,h];refine i2 s_ fun j k m=>?_;rw[List.getElem_set];by_cases e:i=j
 ·subst e;rw[if_pos rfl];simp[vV]
 rw[if_neg e]
def and8 (a b:UInt8):bits .and .u8 (a.toNat:Int) (b.toNat:Int)=((a &&& b).toNat:Int):=by
 rw[UInt8.toNat_and];exact (bits_nat .u8 8 d_ wraps_u8 a.toNat b.toNat (lR a) (lR b)).1
def QW (w:W_) (l:List UInt8) (hl:l.length=16) :
  Cl 260 #[.string (bs l)] w fun e w'=>e=.returned (.tuple #[.string (bs (Su l)),.int .i64 0])/\Kp ac w w':=by
 have Q:(bs l).size=16:=by rw[cG,hl]
 have E:Hid (Su l=vV l 16):=Zz (by unfold Su;rw[hl]);have t:=Lib.run_convert_string_bytes (P:=prog) w 9 105 5 (bs l) underlying9 underlying105 underlying5;have k:=ev.made w (bs l) l (AT l).symm o_;have c:=Lib.bytesWorld_below w 5 (bs l);generalize Lib.bytesWorld w 5 (bs l)=X at *;rw[Q] at t k;generalize grownCap w 16 0 5=n at *;rw[<-Yw l] at k;have J:=k.1;rw[qP,hl] at J;have g:=Zz k;have j:=Zz (Kp.of_below c ac);clear k c;obtain ⟨G,hG⟩:∃G,w.heap.size=G:=⟨_,rfl⟩;rw[hG] at t g;have y:=Zz hG;clear hG;generalize Su l=R at *;go_enter func260,ntmps260
 go_upto_region 5 with fail
 go_loopw [5,13] (fun _ q wr=>∃i:Nat,i<=16/\q=.int .i64 i/\Hid (ev wr G (vV l i) n)/\Hid (Kp ac w wr)) (fun _ q _=>16-(intOf q).toNat)
 case atStart=>exact ⟨0,o_,rfl,g,j⟩
 case round =>
  clear g j t;obtain ⟨i,W,rfl,g,j⟩:=hrel;by_cases O:i<16
  ·have U:(i:Int)<16:=o_
   have hm:((i:Int)).tmod 4=((i % 4:Nat):Int):=by rw[Int.tmod_eq_emod_of_nonneg o_];omega
   have S:=g.o.cell i (by rw[qP,hl];exact O);have fz:=g.o.frozen i o_;have f:=Zz (clI_at l i i o_);have z:=Zz (M2 l i o_);have M:=Zz (V_ l i o_);have s:Hid (∀x,clB i x=if i % 4=3 then x &&& 15 else if i % 4=0/\0<i then x &&& 252 else x):=Zz fun _=>rfl;rw[f.o,if_neg o_] at S;generalize l.getD i 0=x at *;by_cases r:i % 4=3
   ·have T:bits .and .u8 (x.toNat:Int) 15=((x &&& 15).toNat:Int):=and8 x 15
    have p:Hid (ev (wr.setCell ⟨G,i,none⟩ (.int .u8 ((x &&& 15).toNat:Int))) G (vV l (i+1)) n):=Zz (by rw[<-z.o,s.o,if_pos r];exact g.o.set_ i _);have o:=Zz (j.o.setCell ⟨G,i,none⟩ (.int .u8 ((x &&& 15).toNat:Int)) (.inr (Nat.le_of_eq y.o)));generalize x &&& 15=v at *;have Fn:((i % 4:Nat):Int)=3:=o_;rw[Fn] at hm;go_wp2;go_roundw
    case rel=>exact ⟨i+1,o_,by go_num,p,o⟩
    case measure=>simp[intOf];omega
   have Fn:¬((i % 4:Nat):Int)=3:=o_;by_cases d:i % 4=0/\0<i
   ·have T:bits .and .u8 (x.toNat:Int) 252=((x &&& 252).toNat:Int):=and8 x 252
    have p:Hid (ev (wr.setCell ⟨G,i,none⟩ (.int .u8 ((x &&& 252).toNat:Int))) G (vV l (i+1)) n):=Zz (by rw[<-z.o,s.o,if_neg r,if_pos d];exact g.o.set_ i _);have o:=Zz (j.o.setCell ⟨G,i,none⟩ (.int .u8 ((x &&& 252).toNat:Int)) (.inr (Nat.le_of_eq y.o)));generalize x &&& 252=v at *;have u:((i % 4:Nat):Int)=0:=o_;rw[u] at hm;have N:(0:Int)<(i:Int):=o_;go_wp2;go_roundw
    case rel=>exact ⟨i+1,o_,by go_num,p,o⟩
    case measure=>simp[intOf];omega
   have a:Hid (ev wr G (vV l (i+1)) n):=Zz (by rw[<-M.o (by rw[s.o,if_neg r,if_neg d])];exact g.o);have I:¬(((i % 4:Nat):Int)=0/\(0:Int)<(i:Int)):=o_;generalize i % 4=m at *;by_cases u:(m:Int)=0
   ·have N:¬((0:Int)<(i:Int)):=fun h=>I ⟨u,h⟩
    go_wp2;go_roundw
    case rel=>exact ⟨i+1,o_,by go_num,a,j⟩
    case measure=>simp[intOf];omega
   go_wp2;go_roundw
   case rel=>exact ⟨i+1,o_,by go_num,a,j⟩
   case measure=>simp[intOf];omega
  obtain rfl:i=16:=o_;have b:=g.o.reads;rw[qP,hl,<-E.o] at b;have V:=UG (P:=prog) (src:=105) (dst:=9) underlying105 underlying5 underlying9 b;go_wp2;go_ret2;exact ⟨rfl,j.o⟩
end Go.Proofs.YtdkheklakfbeeaaGreatDoor
