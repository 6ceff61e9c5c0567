/- Part 36 of the proof. -/
import Derived.DeepKeys4
import Derived.Maps.RangeWalk
import Derived.Test.YtdkheklakfbeeaaGreatDoorM35
set_option linter.all false
set_option maxRecDepth 100000
set_option maxHeartbeats 16000000
namespace Go.Proofs.YtdkheklakfbeeaaGreatDoor
open Go.RowKit Go.Proofs.Tryz
section
variable {P:Program} {k e t:TypeId} {α:Type} {M:KM P k α} {w w':World} {b r:Nat} {f:α->Option Value} {dom dn:List α} [DecidableEq α]
def RgA (M:KM P k α) (w:World) (b r:Nat) (f:α->Option Value) (dom dn:List α):Prop :=
 ∃D left cnt,w.ranges P k HR b r dom.length D left cnt/\(∀a∈dom,left (M.kk a)=decide (a∉dn))/\(∀kl,left kl=true->∃a,a∈dom/\M.kk a=kl)/\(∀a v,f a=some v->∀z,D.atKey (M.kk a) z=.held v)/\(∀a∈dom,M.ok a/\(f a).isSome=true)
theorem MapA.range (h:MapA M w b f dom) (K:Maps.Keyed P k) (ht:P.underlying t=some (.map k e)) :
  ∃w',(Instr.range t (.map (some b))).run P w=.ok (.pointer (some ⟨w.heap.size,0,none⟩)) w'/\RgA M w' b w.heap.size f dom []/\Kp NoB w w'/\w'.heap.size=w.heap.size+1:=by
 obtain ⟨D,h1,h2,h3,h4,h5⟩:=h.own;obtain ⟨w',hr,nG,hg,hs⟩:=h1.range K ht;refine ⟨w',hr,⟨D,_,_,nG,fun a ha=>?_,fun kl hk=>h5 kl hk,h4,fun a ha=>⟨h.oks a ha,(h.isSome a).2 ha⟩⟩,Kp.of_grown hg (fun q hq=>by cases hq),hs⟩;rw[h3 a (h.oks a ha),(h.isSome a).2 ha];simp
theorem RgA.next (h:RgA M w b r f dom dn) (K:Maps.Keyed P k) (ty:TypeId) :
  ((∀a∈dom,a∈dn)/\(Instr.next (.pointer (some ⟨r,0,none⟩)) false ty).run P w=.ok (.tuple #[.bool false]) w) \/
  ∃a v w',a∈dom/\a∉dn/\f a=some v/\(Instr.next (.pointer (some ⟨r,0,none⟩)) false ty).run P w=.ok (.tuple #[.bool true,M.kv a,v]) w'/\RgA M w' b r f dom (dn++[a])/\Kp (·=r) w w'/\w'.heap.size=w.heap.size/\w'.rangeLeft b r<w.rangeLeft b r /\
   (Instr.entry (.pointer (some ⟨r,0,none⟩))).run P w'=.ok (.tuple #[M.kv a,v]) w':=by
 obtain ⟨D,left,cnt,nG,hl,gY,hf,hd⟩:=h;rcases nG.next K ty with ⟨_,h0,iU⟩|⟨key,v,kl,y,w',Pd,oO,bo,hv,br,iU,ry,af,hg,aj,Pe⟩
 ·refine .inl ⟨fun a ha=>?_,iU⟩
  have:=hl a ha;rw[h0] at this;simpa using this.symm
 ·obtain ⟨a,ha,rfl⟩:=gY kl bo
  obtain ⟨bI,hs⟩:=hd a ha;obtain ⟨u,hu⟩:=Option.isSome_iff_exists.1 hs;have ag:key=M.kv a:=K.inj oO (M.key a bI)
  have ZE:v=u:=by
   have e1:=hf a u hu .nil;rw[br] at e1;have e2:some ((DataW.held v,[]):DataW Value × List MemPlace)=some y:=hv;injection e2 with e2;rw[<-e2] at e1;injection e1
  subst ag ZE
  have hn:a∉dn:=by
   have:=hl a ha;rw[bo] at this;simpa using this.symm
  refine .inr ⟨a,v,w',ha,hn,hu,iU,⟨D,_,Pd,ry,fun a' uJ=>?_,fun kl hk=>?_,hf,hd⟩,Kp.of_grown hg (fun q hq=>by injection hq),aj,by rw[nG.left_eq,ry.left_eq];exact af,Pe⟩
  ·show (left (M.kk a') && !(M.kk a').sameKey (M.kk a))=_
   rw[hl a' uJ];by_cases e:a'=a
   ·subst e
    rw[WideAt.sameKey_self (K.key (M.key _ bI))];simp
   ·have:(M.kk a').sameKey (M.kk a)=false:=by
     cases hs:(M.kk a').sameKey (M.kk a)
     ·rfl
     ·exact absurd (M.inj _ _ (hd a' uJ).1 bI (WideAt.sameKey_eq hs)) e
    rw[this];simp[e]
  ·simp only[Bool.and_eq_true] at hk
   exact gY kl hk.1
theorem RgA.lt (h:RgA M w b r f dom dn):r<w.heap.size/\b<w.heap.size:=by
 obtain ⟨D,left,cnt,nG,_⟩:=h;exact ⟨nG.lt,nG.owns.lt⟩
theorem RgA.kp {S:Nat->Prop} (h:RgA M w b r f dom dn) (a8:Kp S w w') (hb:¬S b) (hr:¬S r):RgA M w' b r f dom dn/\w'.rangeLeft b r=w.rangeLeft b r:=by
 obtain ⟨h1,h2⟩:=h.lt;obtain ⟨D,left,cnt,nG,G6⟩:=h;have e1:=a8.block b h2 hb;have e2:=a8.block r h1 hr
 have ry:w'.ranges P k HR b r dom.length D left cnt:=by
  obtain ⟨es,clock,since,seen,c0,z1,z2,z3,z4,z5,z6⟩:=nG;exact ⟨es,clock,since,seen,c0,e1.trans z1,z2,z3,z4,e2.trans z5,z6⟩
 exact ⟨⟨D,left,cnt,ry,G6⟩,by rw[nG.left_eq,ry.left_eq]⟩
end
section
variable {P:Program} {k e t:TypeId} {α:Type} {M:KM P k α} {w:World} {b:Nat} {f:α->Option Value} {dom:List α}
theorem MapA.clear (h:MapA M w b f dom) (ht:P.underlying t=some (.map k e)) (ty:TypeId) :
  ∃w',(Builtin.clear_ #[t] ty #[.map (some b)]).run P w=.ok (.tuple #[]) w'/\MapA M w' b (fun _=>none) []/\Kp (·=b) w w':=by
 obtain ⟨es,clock,hb⟩:=h.map;have cL:=MapKept.heap_set (o':=.map #[] clock) hb;refine ⟨ChangeMaps.setBlock w b (.map #[] clock),?_,?_,⟨rfl,rfl,rfl,by simp[ChangeMaps.setBlock],fun q _ hq=>cL.2 q hq⟩⟩
 ·simp[Builtin.clear_,run_underlying ht,MapKept.run_getObj_map hb,MapKept.run_setObj_map _ hb,Result.andThen,ChangeMaps.setBlock]
 ·exact ⟨by simp,List.nodup_nil,by simp,.map [],⟨#[],clock,cL.1,⟨by simp,MapKept.stamped_empty clock,by simp⟩,q_e _,rfl⟩,rfl,fun a _=>rfl,by simp,by intro kl h;cases h⟩
end
theorem Tryz.laidOut:laidOutB prog=true:=by kernel_rfl
theorem z_ab:Maps.Keyed prog 148:=Maps.Keyed.of_law (deep_law_laid Tryz.laidOut (m:=2) (by omega) (of_decide_eq_true (by kernel_rfl)) (by kernel_rfl) (by kernel_rfl))
theorem keyPl (a b:Nat) (ha:a<=100000) (hb:b<=100000):keyOf prog 148 (.agg #[.int .i64 a,.int .i64 b])=some (.string (keyBytes [.int .i64 a,.int .i64 b])):=by
 have hw:∀n:Nat,n<=100000->(Lit.int .i64 n).wf=true:=fun n h=>wf_nat n (by omega)
 have Tx:prog.keyType 148=true:=by kernel_rfl
 have hc:prog.cellsOf 148=2:=by kernel_rfl
 have ZF:prog.cellsOf 3=1:=by kernel_rfl
 obtain ⟨m,hm⟩:∃m,prog.types.size=m+1:=⟨_,rfl⟩;unfold keyOf;simp only[underlying148];rw[if_pos (by simp[Tx,Value.formed,underlying148,hc]),hm];unfold Program.keyLits;simp only[underlying148,Value.cells];rw[if_pos (by simp[hc])];simp[ZF,Program.keyLits,under3,hw a ha,hw b hb]
noncomputable def KPl:KM prog 148 (Nat × Nat) where
 kk a:=.string (keyBytes [.int .i64 a.1,.int .i64 a.2])
 kv a:=.agg #[.int .i64 a.1,.int .i64 a.2]
 ok a:=a.1<=100000/\a.2<=100000
 key a h:=keyPl a.1 a.2 h.1 h.2
 inj a b ha hb h:=by
  have h1:=keyPl a.1 a.2 ha.1 ha.2;have h2:=keyPl b.1 b.2 hb.1 hb.2;rw[h] at h1;have h3:=z_ab.inj h1 h2;have h4:=congrArg (fun z:Array Value=>z.toList) (Value.agg.inj h3);simp only[List.cons.injEq,Value.int.injEq,true_and,and_true] at h4;exact Prod.ext (by omega) (by omega)
def wplG (d:Nat) (f:Nat->Option ByteArray) (dn:List Nat):Nat × Nat->Option Value:=fun p=>if p.2<d/\p.1*d+p.2∈dn then txM f (p.1*d+p.2) else none
def wpl (d:Nat) (f:Nat->Option ByteArray):Nat × Nat->Option Value:=fun p=>if p.2<d then txM f (p.1*d+p.2) else none
theorem wplG_nil (d:Nat) (f:Nat->Option ByteArray):wplG d f []=fun _=>none:=by funext p;simp[wplG]
theorem wplG_put {d:Nat} (hd:0<d) (f:Nat->Option ByteArray) (dn:List Nat) (a:Nat) (y:ByteArray) (h:f a=some y):y_Q (wplG d f dn) (a / d,a % d) (.string y)=wplG d f (dn++[a]):=by
 have hm:=q_z a hd;have BS:=Nat.div_add_mod a d;rw[Nat.mul_comm] at BS;funext p;obtain ⟨x,z⟩:=p;unfold y_Q wplG;by_cases e:(x,z)=(a / d,a % d)
 ·obtain ⟨rfl,rfl⟩:=Prod.mk.inj e
  rw[if_pos rfl,if_pos ⟨hm,by rw[BS];exact List.mem_append_right _ List.mem_cons_self⟩];show _=txM f (a / d*d+a % d);rw[BS];unfold txM;rw[h];rfl
 ·rw[if_neg e]
  have aA:¬(z<d/\x*d+z=a):=fun ⟨hz,JT⟩=>e (by
   subst JT
   rw[Nat.mul_comm x d,Nat.mul_add_div hd,Nat.mul_add_mod,Nat.div_eq_of_lt hz,Nat.mod_eq_of_lt hz,Nat.add_zero])
  by_cases h2:z<d/\x*d+z∈dn
  ·rw[if_pos h2,if_pos ⟨h2.1,List.mem_append_left _ h2.2⟩]
  ·rw[if_neg h2,if_neg fun h3=>?_]
   rcases List.mem_append.1 h3.2 with h4|h4
   ·exact h2 ⟨h3.1,h4⟩
   ·exact aA ⟨h3.1,List.mem_singleton.1 h4⟩
theorem wplG_all (d:Nat) (f:Nat->Option ByteArray) (dom dn:List Nat) (h1:∀k,(f k).isSome=true->k∈dom) (h2:∀k∈dom,k∈dn):wplG d f dn=wpl d f:=by
 funext p;unfold wplG wpl;by_cases hz:p.2<d
 ·rw[if_pos hz]
  by_cases hm:p.1*d+p.2∈dn
  ·rw[if_pos ⟨hz,hm⟩]
  ·rw[if_neg fun h=>hm h.2]
   have:f (p.1*d+p.2)=none:=by
    cases hf:f (p.1*d+p.2) with
    | none=>rfl
    | some y=>exact absurd (h2 _ (h1 _ (by rw[hf];rfl))) hm
   unfold txM;rw[this];rfl
 ·rw[if_neg hz,if_neg fun h=>hz h.1]
theorem nodup_len (n:Nat):∀l:List Nat,l.Nodup->(∀a∈l,a<n)->l.length<=n:=by
 induction n with
 | zero =>
  intro l _ h
  cases l with
  | nil=>exact q_e _
  | cons a l=>exact absurd (h a List.mem_cons_self) (Nat.not_lt_zero _)
 | succ n ih =>
  intro l hn h
  have h1:=ih (l.erase n) (hn.erase n) fun a ha=>by
   have h2:=(hn.mem_erase_iff).1 ha;have:=h a h2.2;omega
  rw[List.length_erase] at h1;split at h1<;>omega
theorem mapPl:prog.underlying 98=some (.map 148 9):=underlying98
section
variable {w:World} {v b an st sp g:Nat} {key:List UInt8} {S:Sup} {vs vm:Value} {f:Nat->Option ByteArray} {dom:List Nat}
theorem places_any (hL:Lay w) (hv:Blk w v 88 (vlC b an key (some ⟨st,0,none⟩) (some g))) (hs:Blk w st 116 (stC b an key S vs vm sp)) (hM:MapA KI w g (txM f) dom) (fP:lyOk S.data S.slots) (iE:∀k∈dom,k<S.slots*S.data) :
  Cl 38 #[.pointer (some ⟨v,0,none⟩)] w fun e w'=>∃B dm,e=.returned (.map (some B))/\MapA KPl w' B (wpl S.data f) dm/\Kp NoB w w':=by
 have pX:0<S.data:=by have:=fP.1;omega
 have xK:S.slots*S.data<=1000:=by
  obtain ⟨h1,h2,h3⟩:=fP;exact q_g (Nat.mul_le_mul (show S.slots<=4 by omega) h2) (by decide)
 have HU:=Zz (fun W (k':Kp NoB w W)=>y_Y (hs.kp k' fun h=>h));have HF:=Zz (fun W (k':Kp NoB w W) k hk=>v_5 W (hL.no k') S.data S.slots fP k hk);have HV:=Zz hv;have HG:=Zz (wplG_put pX f);have Pf:=Zz (fun dn=>wplG_all S.data f dom dn fun k hk=>(hM.isSome k).1 (by unfold txM;cases hf:f k with|none=>rw[hf] at hk;cases hk|some y=>rfl));have mt:=Zz (fun k hk=>(⟨iE k hk,q_f (iE k hk) xK⟩:k<S.slots*S.data/\k<1000));have cZ:=hM.alloc (.map #[] 0);obtain ⟨w2,lV,nG,Pg,aj⟩:=cZ.range kd3 y_7;have Bt:Kp NoB w (w.alloc (.map #[] 0)):=(Kp.refl NoB w).alloc _;have al:=Zz (Bt.trans Pg);have HB:=Zz ((MapA.made (M:=KPl) w).no Pg);have c4:(w.alloc (.map #[] 0)).cell? ⟨v,4,none⟩=some (.map (some g)):=(hv.kp Bt fun h=>h).cell 4;rw[World.size_alloc] at lV nG;have Ph:=Zz nG;have ou:Hid (g<w.heap.size):=Zz hM.lt
 have te:Hid (∀a y,txM f a=some y->∃z,f a=some z/\y=.string z):=Zz fun a y h=>by
  unfold txM at h
  cases hf:f a with
  | none=>rw[hf] at h;cases h
  | some z=>rw[hf] at h;injection h with h;exact ⟨z,rfl,h.symm⟩
 clear hL hv hs hM cZ fP iE Pg Bt nG aj;obtain ⟨B,ye⟩:∃B,w.heap.size=B:=⟨_,rfl⟩;rw[ye] at lV HB Ph ou;have HW:=Zz ye;clear ye;have lB:=@run_makeMap prog;go_enter func38,ntmps38
 go_upto_region 3 with fail
 rw[HW.o]
 go_loopw [4,5,6,7,8] (fun _ _ _ _ _ wr=>∃dn dm,Hid (RgA KI wr g (B+1) (txM f) dom dn)/\Hid (MapA KPl wr B (wplG S.data f dn) dm)/\Hid (dm.length<=dn.length/\dn.Nodup/\∀a∈dn,a<1000)/\Hid (Kp NoB w wr)) (fun _ _ _ _ _ wr=>wr.rangeLeft g (B+1))
 case atStart=>exact ⟨[],[],Ph,by rw[wplG_nil];exact HB,Zz ⟨q_e _,List.nodup_nil,fun a h=>by cases h⟩,al⟩
 case round =>
  clear HB Ph al;obtain ⟨dn,dm,HR,HM,HN,HK⟩:=hrel;rcases HR.o.next kd3 0 with ⟨aD,Ty⟩|⟨a,y0,w3,ha,Jx,Gn,Ty,G7,au,ZG,uz,Pe⟩
  ·have HE:=Zz (Pf.o dn aD)
   clear aD;go_wp2;go_ret;exact ⟨B,dm,rfl,by rw[<-HE.o];exact HM.o,HK.o⟩
  ·rw[show KI.kv a=.int .i64 a from rfl] at Ty Pe
   obtain ⟨y,Tz,rfl⟩:=te.o a y0 Gn;obtain ⟨NJ,TA⟩:=mt.o a ha;have ar:=Zz (HK.o.then au fun q hq e=>by have e:q=B+1:=e;have:=HW.o;omega);have yf:=Zz (HM.o.kp au fun e=>by have e:B=B+1:=e;omega);have Pi:=Zz G7;have Pj:=Zz uz;have gk:=Zz NJ;have TB:=Zz (HG.o dn a y Tz)
   have qt:Hid ((dn++[a]).Nodup/\(∀x∈dn++[a],x<1000)/\dn.length<1000):=Zz (by
    obtain ⟨_,n2,n3⟩:=HN.o
    have h1:(dn++[a]).Nodup:=by
     rw[List.nodup_append];refine ⟨n2,List.nodup_cons.2 ⟨by simp,List.nodup_nil⟩,?_⟩;intro x hx z hz e;subst e;rw[List.mem_singleton] at hz;subst hz;exact Jx hx
    have h2:∀x∈dn++[a],x<1000:=fun x hx=>by
     rcases List.mem_append.1 hx with hx|hx
     ·exact n3 x hx
     ·rw[List.mem_singleton.1 hx];exact TA
    have h3:=nodup_len 1000 _ h1 h2;rw[q_b] at h3
    exact ⟨h1,h2,by simp only[q_x] at h3;omega⟩)
   have HQ:Hid (a / S.data<=100000/\a % S.data<=100000):=Zz ⟨q_g (Nat.div_le_self _ _) (by omega),q_g (Nat.mod_le _ _) (by omega)⟩;have sV:=Zz (fun W k'=>HF.o W k' a gk.o);have c3:w3.cell? ⟨v,3,none⟩=some (.pointer (some ⟨st,0,none⟩)):=(HV.o.kp ar.o fun h=>h).cell 3;clear Gn au G7 uz Tz ha NJ TA Jx HR HM HK gk;obtain ⟨q1,js⟩:∃q,a / S.data=q:=⟨_,rfl⟩;obtain ⟨q2,jt⟩:∃q,a % S.data=q:=⟨_,rfl⟩;rw[js,jt] at sV TB HQ;clear js jt;go_wp2_with fail;refine (HU.o w3 ar.o).mono ?_;rintro e w4 ⟨rfl,aw⟩;have az:=Zz (ar.o.trans aw);have rx:=Zz (yf.o.no aw);have Az:=Zz (Pi.o.kp aw (fun h=>h) (fun h=>h));clear aw yf c3;go_wp2_with fail;refine (sV.o w4 az.o).mono ?_;rintro e w5 ⟨rfl,aG⟩;have ax:=Zz (az.o.trans aG);have yp:=rx.o.no aG;have AB:=Az.o.1.kp aG (fun h=>h) (fun h=>h);obtain ⟨w6,gS,Pk,ap⟩:=yp.put z_ab mapPl (by have:=HN.o.1;have:=qt.o.2.2;simp only[maxLen];omega) (a:=(q1,q2)) HQ.o (.string y);replace gS:(Instr.mapUpdate 98 (.map (some B)) (.agg #[.int .i64 q1,.int .i64 q2]) (.string y)).run prog w5=.ok () w6:=gS;have aB:=Zz (ax.o.then ap fun q hq e=>by have e:q=B:=e;have:=HW.o;omega);have AC:=AB.1.kp ap (fun e=>by have e:g=B:=e;have:=ou.o;omega) (fun e=>by have e:B+1=B:=e;omega);rw[TB.o] at Pk;have Ar:=Zz Pk;have Pm:=Zz AC.1;have ZH:Hid (w6.rangeLeft g (B+1)<wr.rangeLeft g (B+1)):=Zz (by rw[AC.2,AB.2,Az.o.2];exact Pj.o)
   have oV:Hid ((z_J dm (q1,q2)).length<=(dn++[a]).length):=Zz (by
    have h1:(z_J dm (q1,q2)).length<=dm.length+1:=by unfold z_J;split<;>simp
    have:=HN.o.1;rw[q_b,q_x]
    omega)
   clear aG ap yp Pk AB AC Az rx;go_wp2;go_roundw
   case rel=>exact ⟨_,_,Pm,Ar,Zz ⟨oV.o,qt.o.1,qt.o.2.1⟩,aB⟩
   case measure=>exact ZH.o
end
theorem DkS.write_len (σ:DkS) (i:Nat) (s:ByteArray):(σ.write i s).now.length=σ.now.length:=by
 unfold DkS.write;split
 ·rfl
 ·exact q_k
theorem DkS.wrs_cons (σ:DkS) (x:Wr) (l:List Wr):σ.wrs (x::l)=(σ.write x.at' x.cell).wrs l:=rfl
theorem DkS.wrs_len (l:List Wr):∀σ:DkS,(σ.wrs l).now.length=σ.now.length:=by
 induction l with
 | nil=>intro σ;rfl
 | cons x l ih=>intro σ;rw[DkS.wrs_cons,ih,DkS.write_len]
theorem DkS.write_off (σ:DkS) (i k:Nat) (s:ByteArray) (h:i≠k):tl (σ.write i s).now k=tl σ.now k:=by
 unfold DkS.write;split
 ·rfl
 ·show (σ.now.set i s).getD k _=σ.now.getD k _
  rw[q_a,q_a,List.getElem?_set_ne h]
theorem DkS.write_on (σ:DkS) (i:Nat) (s:ByteArray) (hd:σ.dead=false) (hi:i<σ.now.length):tl (σ.write i s).now i=s:=by
 unfold DkS.write;rw[hd];show tl (σ.now.set i s) i=s;rw[tl_set _ _ _ _ hi,if_pos rfl]
theorem DkS.wrs_off (l:List Wr):∀(σ:DkS) (k:Nat),(∀x∈l,x.at'≠k)->tl (σ.wrs l).now k=tl σ.now k:=by
 induction l with
 | nil=>intro σ k _;rfl
 | cons x l ih =>
  intro σ k h;rw[DkS.wrs_cons,ih _ _ fun y hy=>h y (List.mem_cons_of_mem _ hy),DkS.write_off _ _ _ _ (h x List.mem_cons_self)]
theorem DkS.wrs_at (P:ByteArray->Prop) (l:List Wr):∀(σ:DkS) (k:Nat),σ.dead=false->k<σ.now.length->(∀x∈l,x.at'=k->P x.cell)->(P (tl σ.now k)\/∃x∈l,x.at'=k)->P (tl (σ.wrs l).now k):=by
 induction l with
 | nil =>
  intro σ k _ _ _ h;rcases h with h|⟨x,hx,_⟩
  ·exact h
  ·cases hx
 | cons x l ih =>
  intro σ k hd hk hx h;rw[DkS.wrs_cons];refine ih _ _ (by rw[DkS.write_dead];exact hd) (by rw[DkS.write_len];exact hk) (fun y hy=>hx y (List.mem_cons_of_mem _ hy)) ?_;by_cases e:x.at'=k
  ·refine .inl ?_
   subst e;rw[DkS.write_on _ _ _ hd hk];exact hx x List.mem_cons_self rfl
  ·rw[DkS.write_off _ _ _ _ e]
   rcases h with h|⟨y,hy,yO⟩
   ·exact .inl h
   ·rcases List.mem_cons.1 hy with rfl|hy
    ·exact absurd yO e
    ·exact .inr ⟨y,hy,yO⟩
theorem DkS.wrs_same (l:List Wr):∀(σ:DkS),σ.now.length=140->(∀x∈l,x.at'<140/\tl σ.now x.at'=x.cell)->(σ.wrs l).now=σ.now:=by
 induction l with
 | nil=>intro σ _ _;rfl
 | cons x l ih =>
  intro σ h h2
  have hw:(σ.write x.at' x.cell).now=σ.now:=by
   unfold DkS.write;split
   ·rfl
   ·show σ.now.set x.at' x.cell=σ.now
    obtain ⟨h3,h4⟩:=h2 x List.mem_cons_self;rw[<-h4];refine q_G fun j=>?_;by_cases e:x.at'=j
    ·subst e
     rw[List.getElem?_set_self (by rw[h];exact h3),tl_at _ _ (by rw[h];exact h3)]
    ·rw[List.getElem?_set_ne e]
  rw[DkS.wrs_cons,ih _ (by rw[hw];exact h) (fun y hy=>by rw[hw];exact h2 y (List.mem_cons_of_mem _ hy)),hw]
theorem DkS.flush_now (σ:DkS):σ.flush.now=σ.now:=by
 unfold DkS.flush;split<;>rfl
theorem DkS.flush_dead (σ:DkS):σ.flush.dead=σ.dead:=by
 unfold DkS.flush;split<;>rfl
theorem DkS.write_of_dead {σ:DkS} (h:σ.dead=true) (i:Nat) (s:ByteArray):σ.write i s=σ:=by unfold DkS.write;rw[h];rfl
theorem DkS.flush_of_dead {σ:DkS} (h:σ.dead=true):σ.flush=σ:=by unfold DkS.flush;rw[h];rfl
structure DkS.Whole (σ:DkS):Prop where
 len:σ.now.length=140
 wait:σ.wait=0
 last:σ.dead=false->σ.last=σ.now
theorem DkS.Whole.flush {σ:DkS} (h:σ.now.length=140) (hw:σ.dead=true->σ.wait=0):σ.flush.Whole:=by
 refine ⟨by rw[DkS.flush_now];exact h,?_,fun hd=>?_⟩
 ·unfold DkS.flush
  split
  ·rename_i hd;exact hw hd
  ·rfl
 ·rw[DkS.flush_dead] at hd
  unfold DkS.flush;rw[hd];rfl
theorem DkS.Whole.crash {σ:DkS} (h:σ.Whole):σ.crash=σ:=by
 unfold DkS.crash;split
 ·rfl
 ·rename_i hd
  have TC:σ.dead=false:=by simpa using hd
  have h2:=h.last TC;have h3:=h.wait;obtain ⟨a,b,c,d⟩:=σ;have e1:a=false:=TC;have e2:c=b:=h2;have e3:d=0:=h3;show (⟨false,c,c,0⟩:DkS)=⟨a,b,c,d⟩;rw[e1,e2,e3]
theorem rot_inj {n t x y:Nat} (hx:x<n) (hy:y<n) (h1:(x+t) % n=(y+t) % n):x=y:=by
 have e1:=Nat.div_add_mod (x+t) n;have e2:=Nat.div_add_mod (y+t) n;rw[h1] at e1;rcases Nat.lt_trichotomy ((x+t) / n) ((y+t) / n) with hq|hq|hq
 ·have:=Nat.mul_le_mul_left n hq
  have e3:n*((x+t) / n).succ=n*((x+t) / n)+n:=Nat.mul_succ _ _;omega
 ·rw[hq] at e1;omega
 ·have:=Nat.mul_le_mul_left n hq
  have e3:n*((y+t) / n).succ=n*((y+t) / n)+n:=Nat.mul_succ _ _;omega
theorem rot_ex {n:Nat} (t:Nat) {a:Nat} (ha:a<n):∃c,c<n/\(c+t) % n=a:=by
 refine ⟨(a+(n-t % n)) % n,q_z _ (by omega),?_⟩;have ht:=q_z t (show 0<n by omega);have e1:=Nat.div_add_mod t n;rw[Nat.mod_add_mod]
 have e2:a+(n-t % n)+t=a+n*(t / n+1):=by
  rw[Nat.mul_succ];omega
 rw[e2,Nat.add_mul_mod_self_left,Nat.mod_eq_of_lt ha]
theorem range_rot (n t:Nat) (hn:0<n):((List.range n).map fun c=>(c+t) % n).Perm (List.range n):=by
 refine (List.perm_ext_iff_of_nodup ?_ List.nodup_range).2 fun a=>?_
 ·unfold List.Nodup
  rw[List.pairwise_map]
  exact List.pairwise_lt_range.imp_of_mem fun ha hb af he=>by
   have:=rot_inj (List.mem_range.1 ha) (List.mem_range.1 hb) he;omega
 ·rw[List.mem_map,List.mem_range]
  constructor
  ·rintro ⟨c,_,rfl⟩
   exact q_z _ hn
  ·intro ha
   obtain ⟨c,hc,e⟩:=rot_ex t ha;exact ⟨c,List.mem_range.2 hc,e⟩
def cnt (p:Nat->Bool) (n:Nat):Nat:=(List.range n).countP p
theorem v_u (p:Nat->Bool) (n:Nat):cnt p (n+1)=cnt p n+(if p n=true then 1 else 0):=by
 unfold cnt;rw[List.range_succ,List.countP_append,List.countP_singleton]
theorem cnt_rot (p:Nat->Bool) (n t:Nat) (hn:0<n):cnt (fun c=>p ((c+t) % n)) n=cnt p n:=by
 have h:=(range_rot n t hn).countP_eq p;rw[List.countP_map] at h;exact h
theorem w_i {p q:Nat->Bool} (n:Nat) (h:∀i,i<n->p i=q i):cnt p n=cnt q n:=by
 unfold cnt
 exact List.countP_congr fun x hx=>by rw[h x (List.mem_range.1 hx)]
theorem cnt_le (p:Nat->Bool) (n:Nat):cnt p n<=n:=by
 unfold cnt;have:=List.countP_le_length (p:=p) (l:=List.range n);rw[q_H] at this;exact this
theorem pk_cnt (n:Nat) (E:Nat->Int) (m:Nat) (hm:m<=n):(pk (ldB n E n) m).length+cnt (fun c=>decide (E c≠0)) m=m:=by
 induction m with
 | zero=>rfl
 | succ m ih =>
  have h:=ih (by omega);rw[v_u]
  have hB:(ldB n E n).getD m false=decide (E m=0):=by
   unfold ldB;rw[q_a,q_j,q_n (by omega)];simp[show m<n by omega]
  by_cases e:E m=0
  ·rw[x_7 (by rw[hB];exact decide_eq_true e),q_b,if_neg (by simp[e])]
   simp only[q_x];omega
  ·rw[pk_no (by rw[hB];exact q_v e),if_pos (by simp[e])]
   omega
theorem load_dec {C:List ByteArray} {k:Nat} (h2:2<=k) (h8:k<=8) (hC:C.length=k) (hs:Siz C 32) (A:Nat->ByteArray) (E:Nat->Int) (hA:∀c,c<k+2->E c=0->A c=tl (z_z C) c) {T:List ByteArray} {e:Int} (h:DecR (ldC (k+2) A E (k+2)) (ldB (k+2) E (k+2)) T e) :
  (cnt (fun c=>decide (E c≠0)) (k+2)<=2->T=z_z C/\e=0)/\(2<cnt (fun c=>decide (E c≠0)) (k+2)->e=24):=by
 have hp:=pk_cnt (k+2) E (k+2) (q_e _);have hl:=ldC_len (k+2) A E (k+2);have hb:=ldB_len (k+2) E (k+2);constructor
 ·intro hg
  refine dec_fit h (by omega) h8 hl hb hC (hs.enE (by omega) (by omega) (by omega)) (by omega) fun s nt am=>?_
  have hE:E s=0:=by
   unfold ldB at am;rw[q_a,q_j,q_n nt] at am;simpa[nt] using am
  have:tl (ldC (k+2) A E (k+2)) s=A s:=by
   unfold ldC tl;rw[q_a,q_j,q_n nt];simp[nt,hE]
  rw[this,hA s nt hE];rfl
 ·intro hg
  exact (dec_lost h (by omega) (by omega) (by omega) (by rw[hl];omega)).2
theorem cnt_full {p:Nat->Bool} {n:Nat} (h:cnt p n=n):∀i,i<n->p i=true:=by
 induction n with
 | zero=>intro i hi;omega
 | succ n ih =>
  rw[v_u] at h;have:=cnt_le p n;intro i hi;by_cases hp:p n=true
  ·rw[if_pos hp] at h
   by_cases e:i=n
   ·subst e;exact hp
   ·exact ih (by omega) i (by omega)
  ·rw[if_neg hp] at h
   omega
def wtP (d:Nat) (f:Nat->Option ByteArray) (t:Nat):Nat->Bool:=fun c=>(f (t*d+c)).isSome
def x_1 (d:Nat) (f:Nat->Option ByteArray) (D:List ByteArray) (t:Nat):Nat->ByteArray:=fun c=>(f (t*d+c)).getD (tl D c)
def y_s (d:Nat) (f:Nat->Option ByteArray) (D:List ByteArray) (t:Nat):List ByteArray:=(List.range d).map (x_1 d f D t)
theorem x_T (d:Nat) (f:Nat->Option ByteArray) (D:List ByteArray) (t:Nat):(y_s d f D t).length=d:=by simp[y_s]
theorem mixC_fl {d:Nat} {f:Nat->Option ByteArray} {D:List ByteArray} {t:Nat} {p:Nat->Bool} (h:∀c,c<d->p c=true):fl (x_1 d f D t) p d=y_s d f D t:=by
 unfold fl y_s
 exact List.map_congr_left fun c hc=>by rw[if_pos (h c (List.mem_range.1 hc))]
theorem wpl_at {d:Nat} {f:Nat->Option ByteArray} {t c:Nat} (hc:c<d):wpl d f (t,c)=txM f (t*d+c):=if_pos hc
section
variable {w:World} {v b n an st sp g t B:Nat} {key:List UInt8} {S:Sup} {vs vm:Value} {f:Nat->Option ByteArray} {dm:List (Nat × Nat)}
theorem chunks_any (hL:Lay w) (hv:Blk w v 88 (vlC b an key (some ⟨st,0,none⟩) (some g))) (hs:Blk w st 116 (stC b an key S vs vm sp)) (hR:y_P w S vs vm) (hS:SupOk S) (ht:t<S.slots) (hP:MapA KPl w B (wpl S.data f) dm) (D:List ByteArray) (e2:Int)
  (hz:∀c,c<S.data->(x_1 S.data f D t c).size=32) (BW:S.data<=D.length) (Pn:D.length<=100)
  (TD:∀W u,Kp NoB w W->z_Q W u 6 (S.data+2) (shL b S.slots key (y_j S t))->Cl 61 #[u,.int .i64 t] W fun e w'=>∃u vl,e=.returned (.tuple #[u,vl,.int .i64 e2])/\(e2=0->Own w' W.heap.size 9 u (sv D))/\Kp NoB W w') :
  Cl 39 #[.pointer (some ⟨v,0,none⟩),.int .i64 t,.map (some B)] w fun e w'=>∃u er,e=.returned (.tuple #[u,.int .i64 er])/\Kp NoB w w' /\
   (cnt (wtP S.data f t) S.data=0/\er=0/\u=.slice none 0 0\/0<cnt (wtP S.data f t) S.data/\cnt (wtP S.data f t) S.data<S.data/\e2≠0/\er=e2/\u=.slice none 0 0 \/
    0<cnt (wtP S.data f t) S.data/\(cnt (wtP S.data f t) S.data=S.data\/e2=0)/\er=0/\Own w' w.heap.size 9 u (sv (z_z (y_s S.data f D t)))):=by
 have fP:lyOk S.data S.slots:=⟨hS.d2,by have:=hS.d8;omega,hS.sl⟩
 have jw:S.slots<=4:=by rcases hS.sl with h|h<;>omega
 have HU:=Zz (fun W (k':Kp NoB w W)=>y_Y (hs.kp k' fun h=>h));have ng:=Zz (fun W (k':Kp NoB w W)=>v_9 W (hL.no k') S.data S.slots fP t ht);have iC:=Zz (fun W (k':Kp NoB w W)=>v_T (hL.no k') (hs.kp k' fun h=>h) (hR.no k') hS ht);have oG:=Zz (fun W u k h=>TD W u k h);have rL:=Zz (fun W=>mk_txt S.data (by have:=hS.d8;omega) W)
 have gB:Hid (∀W u,z_g W u (sv (y_s S.data f D t))->Cl 65 #[u] W fun e w'=>∃u,e=.returned (.tuple #[u,.int .i64 0])/\Own w' W.heap.size 9 u (sv (z_z (y_s S.data f D t)))/\Kp NoB W w'):=Zz fun W u h=>make_any W u _ h (by rw[x_T];have:=hS.d2;have:=hS.d8;omega) (fun j hj=>by
  rw[x_T] at hj
  have:tl (y_s S.data f D t) j=x_1 S.data f D t j:=by
   unfold y_s tl;rw[q_a,q_j,q_n hj];rfl
  rw[this]
  exact hz j hj)
 have HV:=Zz hv;have HP:=Zz hP;have db:=hS.d2;have BG:=hS.d8;have jv:=Zz (v_u (wtP S.data f t));have kB:=Zz (cnt_le (wtP S.data f t));have vI:=Zz (fun (h:cnt (wtP S.data f t) S.data=S.data)=>cnt_full h);have kI:=Zz (fun c (hc:c<S.data)=>wpl_at (f:=f) (t:=t) hc);have te:=Zz (fun p p' i (h:i<S.data) h1 h2=>fl_set (x_1 S.data f D t) p p' S.data i h1 h2);have TE:=Zz (fun p h=>fl_none (x_1 S.data f D t) p S.data h);have JA:=Zz (fun p p' h=>fl_eq (x_1 S.data f D t) p p' S.data h);have EW:=Zz (fun p h=>mixC_fl (d:=S.data) (f:=f) (D:=D) (t:=t) (p:=p) h)
 have jz:Hid (∀c y,f (t*S.data+c)=some y->x_1 S.data f D t c=y):=Zz fun c y h=>by unfold x_1;rw[h];rfl
 have tL:Hid (∀c,f (t*S.data+c)=none->x_1 S.data f D t c=tl D c):=Zz fun c h=>by unfold x_1;rw[h];rfl
 have kG:Hid (∀c,wtP S.data f t c=(f (t*S.data+c)).isSome):=Zz fun c=>rfl;have c3:=hv.c3;clear hL hv hs hR hS hP hz TD fP;obtain ⟨d,hd⟩:∃d,S.data=d:=⟨_,rfl⟩;rw[hd] at HU ng iC oG rL gB HP db BG jv kB vI kI te TE JA EW jz tL kG BW ⊢;have I9:Hid ((y_s d f D t).length=d):=Zz (x_T d f D t);generalize wtP d f t=p at *;generalize x_1 d f D t=X at *;generalize y_s d f D t=MC at *;clear hd;go_enter func39,ntmps39;go_wp2_with fail;refine (HU.o w (Kp.refl NoB w)).mono ?_;rintro e w2 ⟨rfl,ag⟩;have al:=Zz ag;clear ag;go_wp2_with fail;refine (ng.o w2 al.o).mono ?_;rintro e w3 ⟨rfl,au⟩;have ar:=Zz (al.o.trans au);clear au al c3;have bK:=rL.o w3;have fj:=Zz (Blk.new w3 9 (madeCells #[.string ⟨#[]⟩] d));have az:=Zz (ar.o.alloc (.cells (madeCells #[.string ⟨#[]⟩] d) 9));have HE:Hid (madeCells #[.string ⟨#[]⟩] d=(sv (fl X (fun c=>decide (c<0) && p c) d)).toArray):=Zz (by rw[made_txt,<-TE.o (fun c=>decide (c<0) && p c) (fun c _=>by simp)]);have cR:Hid (w.heap.size<=w3.heap.size):=Zz ar.o.size
 go_upto_region 4 with fail
 clear bK;generalize w3.alloc (.cells (madeCells #[.string ⟨#[]⟩] d) 9)=w4 at *;rw[HE.o] at fj;generalize w3.heap.size=G at *
 go_loopw [9,10,11,12,29] (fun s9 _ _ _ s29 wr=>∃i:Nat,i<=d/\s29=.int .i64 i/\s9=.int .i64 (cnt p i:Nat)/\Hid (Blk wr G 9 (sv (fl X (fun c=>decide (c<i) && p c) d)).toArray)/\Hid (Kp NoB w wr)) (fun _ _ _ _ s29 _=>d-(intOf s29).toNat)
 case atStart=>exact ⟨0,by omega,rfl,rfl,fj,az⟩
 case round =>
  clear fj az;obtain ⟨i,hi,rfl,rfl,HB,HK⟩:=hrel;by_cases af:i<d
  ·have bV:(i:Int)<(d:Int):=by omega
   have bo:=((HP.o.no HK.o).look z_ab mapPl (zero9 wr) (a:=(t,i)) ⟨by show t<=100000;omega,by show i<=100000;omega⟩).2;rw[kI.o i af] at bo;have et:=jv.o i;have co:=kB.o i
   cases gT:f (t*d+i) with
   | some y =>
    rw[show txM f (t*d+i)=some (.string y) by unfold txM;rw[gT];rfl] at bo;replace bo:(Instr.lookup 98 (.map (some B)) (.agg #[.int .i64 t,.int .i64 i]) true).run prog wr=.ok (.tuple #[.string y,.bool true]) wr:=bo
    have hp:p i=true:=by rw[kG.o,gT];rfl
    rw[if_pos hp] at et
    have im:i<(sv (fl X (fun c=>decide (c<i) && p c) d)).length:=by rw[z_c,y_T];exact af
    obtain ⟨y1,nj⟩:∃y1,wr.cell? ⟨G,i,none⟩=some y1:=⟨_,by rw[HB.o.cell,q_p];exact q_d im⟩;have FJ:=HB.o.frozen i;have ak:=Zz (w_E HB.o i (.string y))
    rw[v_q,<-jz.o i y gT,te.o _ (fun c=>decide (c<i+1) && p c) i af (fun j _ hj=>by
     have:decide (j<i+1)=decide (j<i):=by rw[decide_eq_decide];omega
     rw[this]) (by simp[hp]),jz.o i y gT] at ak
    have al:=Zz (HK.o.setCell ⟨G,i,none⟩ (.string y) (.inr cR.o));clear gT hp HB HK;generalize aK:cnt p i=c1 at *
    go_upto_region 9 with fail
    clear bo nj FJ;generalize wr.setCell ⟨G,i,none⟩ (.string y)=w6 at *;go_wp2;go_roundw
    case rel=>exact ⟨i+1,by omega,by go_num,by rw[et];go_num,ak,al⟩
    case measure=>simp[intOf];omega
   | none =>
    rw[show txM f (t*d+i)=none by unfold txM;rw[gT];rfl] at bo;replace bo:(Instr.lookup 98 (.map (some B)) (.agg #[.int .i64 t,.int .i64 i]) true).run prog wr=.ok (.tuple #[.string ⟨#[]⟩,.bool false]) wr:=bo
    have hp:p i=false:=by rw[kG.o,gT];rfl
    rw[if_neg (by rw[hp];decide),Nat.add_zero] at et;have ak:=HB
    rw[JA.o _ (fun c=>decide (c<i+1) && p c) (fun j _=>by
     by_cases e:j=i
     ·subst e;simp[hp]
     ·have:decide (j<i+1)=decide (j<i):=by rw[decide_eq_decide];omega
      rw[this])] at ak
    clear gT hp HB;go_wp2;go_roundw
    case rel=>exact ⟨i+1,by omega,by go_num,by rw[et];rfl,ak,HK⟩
    case measure=>simp[intOf];omega
  ·obtain rfl:i=d:=by omega
   have co:=kB.o i;clear rL;by_cases h0:cnt p i=0
   ·have HH:=Zz h0
    rw[h0];go_wp2;go_ret2;exact ⟨_,0,rfl,HK.o,.inl ⟨HH.o,rfl,rfl⟩⟩
   ·have Po:((cnt p i:Nat):Int)≠0:=by omega
    have JB:(((cnt p i:Nat):Int)==0)=false:=by rw[q_o];exact Po
    have BU:Hid (0<cnt p i):=Zz (by omega);have xU:Hid (G<wr.heap.size):=Zz HB.o.lt;by_cases h1:cnt p i=i
    ·have aD:=vI.o h1
     have ak:=HB;rw[EW.o _ (fun c hc=>by simp[hc,aD c hc])] at ak;have R1:=Zz (v_N ak.o i (by rw[z_c];exact I9.o) (by omega));have HH:=Zz h1;clear aD HB;rw[h1] at Po JB ⊢;go_wp2_with fail;refine (gB.o _ _ R1.o).mono ?_;rintro e w7 ⟨u,rfl,ho,aM⟩;obtain ⟨Au,cu,rfl⟩:=z_r ho;have HO:=Zz (ho.more HK.o.size);have bC:=Zz (HK.o.trans aM);clear ho aM;go_wp2;go_ret2;exact ⟨_,0,rfl,bC.o,.inr (.inr ⟨BU.o,.inl HH.o,rfl,HO.o⟩)⟩
    ·have Le:((cnt p i:Nat):Int)<(i:Int):=by omega
     have g9:Hid (cnt p i<i):=Zz (by omega);obtain ⟨c1,aK⟩:∃c1,cnt p i=c1:=⟨_,rfl⟩;have oX:=Zz aK;rw[aK] at Po JB Le BU g9 ⊢;clear aK h0 h1;have c3:wr.cell? ⟨v,3,none⟩=some (.pointer (some ⟨st,0,none⟩)):=(HV.o.kp HK.o fun h=>h).cell 3;go_wp2_with fail;refine (iC.o wr HK.o).mono ?_;rintro e w5 ⟨u5,rfl,G3,aG⟩;have aY:=Zz (HB.o.kp aG fun h=>h);have ax:=Zz (HK.o.trans aG);have nS:Hid (G<w5.heap.size):=Zz aY.o.lt;have lr:=Zz (oG.o w5 u5 ax.o (y_x G3));clear aG G3 HB HK c3;go_wp2_with fail;refine lr.o.mono ?_;rintro e w6 ⟨u6,vl,rfl,tc,ap⟩;have bk:=Zz (aY.o.kp ap fun h=>h);have aB:=Zz (ax.o.trans ap);clear ap lr aY ax;by_cases he:e2=0
     ·have dG:=Zz (tc he)
      subst he;obtain ⟨rb,av,rfl,bu,bJ,kU⟩:=dG.o.form (by rw[z_c];omega);rw[z_c] at dG ⊢;have qk:Hid (rb≠G/\rb<w6.heap.size):=Zz ⟨by have:=nS.o;omega,bJ⟩;have bA:Hid (∀c,c<i->w6.cell? ⟨rb,c,none⟩=some (.string (tl D c))):=Zz fun c hc=>y_h dG.o rfl c (by omega);obtain ⟨dl,lY⟩:∃dl,D.length=dl:=⟨_,rfl⟩;rw[lY] at BW Pn ⊢;have G8:Hid (Kp (·=G) w6 w6):=Zz (Kp.refl _ _);have AD:=bk;rw[JA.o _ (fun c=>p c || decide (c<0)) (fun c hc=>by simp[hc])] at AD;clear tc bu bJ kU lY bk dG
      go_upto_region 18 with fail
      go_loopw [16,17,18,71] (fun _ _ _ s71 wr=>∃j:Nat,j<=i/\s71=.int .i64 j/\Hid (Blk wr G 9 (sv (fl X (fun c=>p c || decide (c<j)) i)).toArray)/\Hid (Kp (·=G) w6 wr)) (fun _ _ _ s71 _=>i-(intOf s71).toNat)
      case atStart=>exact ⟨0,by omega,rfl,AD,G8⟩
      case round =>
       clear AD G8;obtain ⟨j,hj,rfl,HB,HK⟩:=hrel;have fB:=Zz (aB.o.then HK.o fun q hq e=>by have e:q=G:=e;have:=cR.o;omega);by_cases JC:j<i
       ·have ve:(j:Int)<(i:Int):=by omega
        have bo:=((HP.o.no fB.o).look z_ab mapPl (zero9 wr) (a:=(t,j)) ⟨by show t<=100000;omega,by show j<=100000;omega⟩).2;rw[kI.o j JC] at bo
        cases gT:f (t*i+j) with
        | some y =>
         rw[show txM f (t*i+j)=some (.string y) by unfold txM;rw[gT];rfl] at bo;replace bo:(Instr.lookup 98 (.map (some B)) (.agg #[.int .i64 t,.int .i64 j]) true).run prog wr=.ok (.tuple #[.string y,.bool true]) wr:=bo
         have hp:p j=true:=by rw[kG.o,gT];rfl
         have ak:=HB
         rw[JA.o _ (fun c=>p c || decide (c<j+1)) (fun c _=>by
          by_cases e:c=j
          ·subst e;simp[hp]
          ·have:decide (c<j+1)=decide (c<j):=by rw[decide_eq_decide];omega
           rw[this])] at ak
         clear gT hp HB fB;go_wp2;go_roundw
         case rel=>exact ⟨j+1,by omega,by go_num,ak,HK⟩
         case measure=>simp[intOf];omega
        | none =>
         rw[show txM f (t*i+j)=none by unfold txM;rw[gT];rfl] at bo;replace bo:(Instr.lookup 98 (.map (some B)) (.agg #[.int .i64 t,.int .i64 j]) true).run prog wr=.ok (.tuple #[.string ⟨#[]⟩,.bool false]) wr:=bo
         have hp:p j=false:=by rw[kG.o,gT];rfl
         have rQ:wr.cell? ⟨rb,j,none⟩=some (.string (tl D j)):=(x_b (HK.o.block rb qk.o.2 qk.o.1)).trans (bA.o j JC)
         have im:j<(sv (fl X (fun c=>p c || decide (c<j)) i)).length:=by rw[z_c,y_T];exact JC
         obtain ⟨y1,nj⟩:∃y1,wr.cell? ⟨G,j,none⟩=some y1:=⟨_,by rw[HB.o.cell,q_p];exact q_d im⟩;have FJ:=HB.o.frozen j;have ak:=Zz (w_E HB.o j (.string (tl D j)))
         rw[v_q,<-tL.o j gT,te.o _ (fun c=>p c || decide (c<j+1)) j JC (fun c _ hc=>by
          have:decide (c<j+1)=decide (c<j):=by rw[decide_eq_decide];omega
          rw[this]) (by simp),tL.o j gT] at ak
         have al:=Zz (HK.o.setCell ⟨G,j,none⟩ (.string (tl D j)) (.inl rfl))
         have JD:j<dl:=by omega
         clear gT hp HB HK fB;generalize tl D j=y at *
         go_upto_region 23 with fail
         clear bo nj FJ rQ;generalize wr.setCell ⟨G,j,none⟩ (.string y)=w8 at *;go_wp2;go_roundw
         case rel=>exact ⟨j+1,by omega,by go_num,ak,al⟩
         case measure=>simp[intOf];omega
       ·obtain rfl:j=i:=by omega
        have ak:=HB;rw[EW.o _ (fun c hc=>by simp[hc])] at ak;have R1:=Zz (v_N ak.o j (by rw[z_c];exact I9.o) (by omega));clear HB ak;go_wp2_with fail;refine (gB.o _ _ R1.o).mono ?_;rintro e w9 ⟨u,rfl,ho,bL⟩;obtain ⟨Au,cu,rfl⟩:=z_r ho;have HO:=Zz (ho.more fB.o.size);have aT:=Zz (fB.o.trans bL);clear ho bL;go_wp2;go_ret2;exact ⟨_,0,rfl,aT.o,.inr ⟨by rw[oX.o];exact BU.o,rfl,HO.o⟩⟩
     ·have cX:(e2 != 0)=true:=by rw[bne_iff_ne];exact he
      clear tc;go_wp2;go_ret2;exact ⟨_,e2,rfl,aB.o,.inr (.inl ⟨by rw[oX.o];exact BU.o,by rw[oX.o];exact g9.o,he,rfl,rfl⟩)⟩
end
end Go.Proofs.YtdkheklakfbeeaaGreatDoor
