/- Lemmas. -/
import Derived.Test.YtcenghjfipkgmaaGreatMb9
set_option linter.unusedSimpArgs false
set_option linter.unusedVariables false
namespace Go.Proofs
open Go.Vc Go.Proofs.Tryz
set_option maxRecDepth 100000
set_option maxHeartbeats 4000000
def JA (k:Int) (A:List dY):Prop:=∀ s∈A,s.told=true->(s.locals.length:Int)=k
theorem rV.adg {n:Nat} {k:Int} {A:List dY} (h:rV n k A) (hk:0<=k):JA k A:=λs hs ht=>by
 have:=(h s hs ht).loc;omega
structure pF (h:Heap) (b:Nat) (rec:List Value) (m:cL):Prop where
 ex:∃ a c s k,rec=[.int .i64 m.cls,.int .i64 m.fG,a,.int .i64 m.out,.int .i64 m.locals,c,s,k]/\cY m.cls/\cY m.fG/\cY m.out/\cY m.locals /\
  (tA (bh h b) a m.args/\m.args.length<=100)/\Row 3 DU h c m.code/\Row 3 mV h s m.aQ/\Row 4 DV h k m.catches /\
  ∀ p n cc,s=.slice p n cc->n=0\/∃ bs off,p=some ⟨bs,off,none⟩/\bs≠b
theorem pF.toR {h:Heap} {b:Nat} {rec:List Value} {m:cL} (hm:pF h b rec m):eM h rec m:=by
 obtain⟨a,c,s,k,e,i1,i2,i3,i4,h1,h2,h3,h4,_⟩:=hm.ex;exact⟨a,c,s,k,e,i1,i2,i3,i4,(h1.1.ints (by omega)).le (iq h b),h2,h3,h4⟩
theorem pF.le {h h':Heap} {b:Nat} {rec:List Value} {m:cL} (hl:h.le h') (hm:pF h b rec m):pF h' b rec m:=by
 obtain⟨a,c,s,k,e,i1,i2,i3,i4,h1,h2,h3,h4,h5⟩:=hm.ex;exact⟨a,c,s,k,e,i1,i2,i3,i4,⟨h1.1.le (cy b hl),h1.2⟩,h2.le hl (λ_ _ hx=>hx),h3.le hl (λ_ _ hx=>hx.le hl),h4.le hl (λ_ _ hx=>hx),h5⟩
structure G2 (m m':cL):Prop where
 cls:m'.cls=m.cls
 fG:m'.fG=m.fG
 out:m'.out=m.out
 locals:m'.locals=m.locals
 code:m'.code.length=m.code.length
 aQ:m'.aQ.length=m.aQ.length
 catches:m'.catches.length=m.catches.length
 adh:∀ k,JA k m.aQ->JA k m'.aQ
def aap (s s':dY):Prop:=s'.told=s.told/\s'.locals.length=s.locals.length
theorem E4 {g g':Heap} (ai:xY g g') {p:Option Addr} {n c:Nat} {l:List dY} (hr:Row 3 mV g (.slice p n c) l) (hb:n=0\/∃ bs off,p=some ⟨bs,off,none⟩/\g' bs=g bs) :
  ∃ l',Row 3 mV g' (.slice p n c) l'/\l'.length=l.length/\∀ k,JA k l->JA k l':=by
 obtain⟨h1,p',c',e,h2,h3⟩:=hr;simp only[Z_]at e;obtain⟨rfl,rfl,rfl⟩:=e;rcases h3 with rfl|⟨b,off,rfl,hx⟩
 ·exact⟨[],⟨by simp,p,c,rfl,by simp,.inl rfl⟩,rfl,λk h=>h⟩
 ·rcases hb with hb|⟨bs,eJ,e,Av⟩
  ·have:l=[]:=List.eq_nil_of_length_eq_zero hb;subst this;exact⟨[],⟨by simp,_,c,rfl,by simp,.inl rfl⟩,rfl,λk h=>h⟩
  ·simp only[v_,Addr.mk.injEq,and_true]at e;obtain⟨rfl,rfl⟩:=e;obtain⟨l',hl,tn⟩:=jT (Q:=λi (x:dY)=>∀ h:i < l.length,aap l[i] x/\∃ vs,fj g' b (off+i*3) 3=some vs/\mV g' vs x) l.length (λi hi=>by
    obtain⟨vs,e1,l1,l2,rfl,i1,i2⟩:=hx i l[i] (by simp[hi]);obtain⟨m1,j1,n1⟩:=gD ai i1;obtain⟨m2,j2,_⟩:=gD ai i2;exact⟨⟨l[i].told,m1,m2⟩,λ_=>⟨⟨rfl,n1⟩,_,by rw[y8 Av];exact e1,_,_,rfl,j1,j2⟩⟩)
   refine⟨l',⟨by omega,_,c,by rw[hl],by omega,.inr ⟨b,off,rfl,λi x hi=>?_⟩⟩,hl,λk hk s hs ht=>?_⟩
   ·have bV:i < l.length:=by have:=(List.getElem?_eq_some_iff.1 hi).1;omega
    exact(tn i x hi bV).2
   ·obtain⟨i,hi⟩:=List.getElem?_of_mem hs;have bV:i < l.length:=by have:=(List.getElem?_eq_some_iff.1 hi).1;omega
    have:=(tn i s hi bV).1;rw[this.2];exact hk _ (x_ bV) (by rw[<-this.1];exact ht)
theorem pF.over {h h':Heap} {b:Nat} {rec:List Value} {m:cL} (hm:pF h b rec m) (ai:xY h h') (ho:∀ x,x≠b->h' x=h x):∃ m',pF h' b rec m'/\G2 m m'/\m'.args=m.args:=by
 obtain⟨a,c,s,k,e,i1,i2,i3,i4,h1,h2,h3,h4,h5⟩:=hm.ex;have hh:bh h' b=bh h b:=by
  funext x
  unfold bh;by_cases hx:x=b
  ·simp[hx]
  ·simp[hx,ho x hx]
 obtain⟨l2,r2,n2⟩:=jg (yl ai) h2;obtain⟨l4,r4,n4⟩:=jg (ym ai) h4;obtain⟨p,cc,rfl,_,_⟩:=h3.len;obtain⟨l3,r3,n3,v3⟩:=E4 ai h3 ((h5 _ _ _ rfl).imp id λ⟨bs,off,e1,e2⟩=>⟨bs,off,e1,ho bs e2⟩);exact⟨⟨m.cls,m.fG,m.args,m.out,m.locals,l2,l3,l4⟩,⟨a,c,_,k,e,i1,i2,i3,i4,by rw[hh];exact h1,r2,r3,r4,h5⟩,⟨rfl,rfl,rfl,rfl,n2,n3,n4,v3⟩,rfl⟩
structure zU (h:Heap) (b c:Nat) (aS:List (List Value)) (A:List cL):Prop where
 own:cr 8 h (.slice (some ⟨b,0,none⟩) A.length c) aS [b]
 len:aS.length=A.length
 each:∀ i (h1:i < aS.length) (h2:i < A.length),pF h b aS[i] A[i]
theorem zU.le {h h':Heap} {b c:Nat} {aS:List (List Value)} {A:List cL} (r:zU h b c aS A) (hl:h.le h'):zU h' b c aS A :=
 ⟨r.own.aJ (cR.of_le hl _),r.len,λi h1 h2=>(r.each i h1 h2).le hl⟩
theorem zU.zD {h:Heap} {b c:Nat} {aS:List (List Value)} {A:List cL} (r:zU h b c aS A) (hl:A.length<=1000):Row 8 eM h (.slice (some ⟨b,0,none⟩) A.length c) A:=by
 obtain⟨hx,⟨he,_⟩|⟨b',c',rest,t,he,hc,hb,td,_⟩⟩:=r.own
 ·cases he
 simp only[Z_,v_,Addr.mk.injEq]at he;obtain⟨⟨rfl,_⟩,hn,rfl⟩:=he;refine⟨by omega,_,_,rfl,by omega,.inr ⟨b,0,rfl,λi x hi=>?_⟩⟩;obtain⟨h2,rfl⟩:=List.getElem?_eq_some_iff.1 hi;have h1:i < aS.length:=by rw[r.len];exact h2
 refine⟨aS[i],?_,(r.each i h1 h2).toR⟩;have fV:(aS.take i).flatten.length=i*8:=by
  rw[bW (sz:=8)]
  ·rw[List.length_take,Nat.min_eq_left (by omega)]
  ·intro y hy;exact hx y (List.mem_of_mem_take hy)
 have Dj:aS.flatten++rest=(aS.take i).flatten++(aS[i]++((aS.drop (i+1)).flatten++rest)):=by
  have e:aS=aS.take i++aS[i]::aS.drop (i+1):=by rw[<-List.drop_eq_getElem_cons h1,List.take_append_drop]
  have e2:=congrArg List.flatten e;rw[e2];simp only[List.flatten_append,List.flatten_cons,List.append_assoc]
 have tI:aS[i].length=8:=hx _ (x_ _);rw[Dj]at hb td;rw[bO hb 8 (0+i*8) (by simp only[U_]at td ⊢;omega),Nat.zero_add,<-fV,List.drop_left,<-tI,List.take_left]
theorem zU.at {h:Heap} {b c:Nat} {aS:List (List Value)} {A:List cL} (r:zU h b c aS A) {i:Nat} (hi:i < A.length) :
  ∃ hr:i < aS.length,fj h b (0+i*8) 8=some aS[i]/\pF h b aS[i] A[i]/\∃ pre post t,h b=some (.cells (pre++aS[i]++post).toArray t (0,0))/\pre.length=i*8 /\
   ∀ eG h',eG.length=8->h' b=some (.cells (pre++eG++post).toArray t (0,0))->cr 8 h' (.slice (some ⟨b,0,none⟩) A.length c) (aS.set i eG) [b]:=by
 have hr:i < aS.length:=by rw[r.len];exact hi
 have tX:aS=aS.take i++aS[i]::aS.drop (i+1):=by rw[<-List.drop_eq_getElem_cons hr,List.take_append_drop]
 have AS:cr 8 h (.slice (some ⟨b,0,none⟩) A.length c) (aS.take i++aS[i]::aS.drop (i+1)) [b]:=by rw[<-tX];exact r.own
 obtain⟨bl,cl,pre,post,tl,hq,td,fV,Te,hB,fe⟩:=AS.at;simp only[Z_,v_,Addr.mk.injEq]at hq;obtain⟨⟨rfl,_⟩,_,rfl⟩:=hq;have lF:pre.length=i*8:=by rw[fV,List.length_take,Nat.min_eq_left (by omega)]
 refine⟨hr,?_,r.each i hr hi,pre,post,tl,td,lF,λeG h' hl bA=>?_⟩
 ·rw[bO td 8 (0+i*8) (by simp[lF,Te])];rw[List.append_assoc,Nat.zero_add,<-lF,List.drop_left,List.take_left' Te]
 ·have hs:aS.set i eG=aS.take i++eG::aS.drop (i+1):=by rw[List.set_eq_take_append_cons_drop,if_pos hr]
  rw[hs];exact fe h' eG bA hl
def E5 (rec:List Value):Prop:=∃(x1 x2 x3 x4:Int) (v1 v2 v3 v4:Value),rec=[.int .i64 x1,.int .i64 x2,v1,.int .i64 x3,.int .i64 x4,v2,v3,v4]/\cY x1/\cY x2/\cY x3/\cY x4/\(∀ x,v1≠.int .i64 x)/\(∀ x,v2≠.int .i64 x)/\(∀ x,v3≠.int .i64 x)/\∀ x,v4≠.int .i64 x
theorem pF.G3 {h:Heap} {b:Nat} {rec:List Value} {m:cL} (hm:pF h b rec m):E5 rec:=by
 obtain⟨a,c,s,k,e,i1,i2,i3,i4,h1,h2,h3,h4,_⟩:=hm.ex;obtain⟨_,_,rfl⟩:=h1.1.form;obtain⟨_,_,rfl,_⟩:=h2.len;obtain⟨_,_,rfl,_⟩:=h3.len;obtain⟨_,_,rfl,_⟩:=h4.len;exact⟨_,_,_,_,_,_,_,_,e,i1,i2,i3,i4,(λx h=>nomatch h),(λx h=>nomatch h),(λx h=>nomatch h),(λx h=>nomatch h)⟩
theorem vX {g:Heap} {b:Nat} {pre post rec eG:List Value} {t:TypeId} (hb:g b=some (.cells (pre++rec++post).toArray t (0,0))) (h1:E5 rec) (h2:E5 eG):xY g (g.set b (.cells (pre++eG++post).toArray t (0,0))):=by
 obtain⟨x1,x2,x3,x4,v1,v2,v3,v4,rfl,_,_,_,_,n1,n2,n3,n4⟩:=h1;obtain⟨y1,y2,y3,y4,w1,w2,w3,w4,rfl,j1,j2,j3,j4,_⟩:=h2;intro b' off x hx hi;by_cases e:b'=b
 ·subst e;have ko:(g.set b' (.cells (pre++[Value.int .i64 y1,.int .i64 y2,w1,.int .i64 y3,.int .i64 y4,w2,w3,w4]++post).toArray t (0,0))) b'=some (.cells (pre++[Value.int .i64 y1,.int .i64 y2,w1,.int .i64 y3,.int .i64 y4,w2,w3,w4]++post).toArray t (0,0)):=dh _ _ _;by_cases e1:off < pre.length
  ·refine⟨x,?_,hi⟩;simp only[rd,hb,List.getElem?_toArray]at hx;rw[List.append_assoc,List.getElem?_append_left e1]at hx;simp only[rd,ko,List.getElem?_toArray];rw[List.append_assoc,List.getElem?_append_left e1];exact hx
  ·by_cases e2:off < pre.length+8
   ·have OE:∃ j,off=pre.length+j/\j < 8:=⟨off-pre.length,by omega,by omega⟩
    obtain⟨j,rfl,hj⟩:=OE;have iB:∀ i v,[Value.int .i64 x1,.int .i64 x2,v1,.int .i64 x3,.int .i64 x4,v2,v3,v4][i]? = some v->rd g b' (pre.length+i)=some v:=λi v hv=>bE hb rfl hv;have same:∀ i v,[Value.int .i64 y1,.int .i64 y2,w1,.int .i64 y3,.int .i64 y4,w2,w3,w4][i]? = some v->rd (g.set b' (.cells (pre++[Value.int .i64 y1,.int .i64 y2,w1,.int .i64 y3,.int .i64 y4,w2,w3,w4]++post).toArray t (0,0))) b' (pre.length+i)=some v:=λi v hv=>bE ko rfl hv;have KT:j=0\/j=1\/j=2\/j=3\/j=4\/j=5\/j=6\/j=7:=by omega
    rcases KT with rfl|rfl|rfl|rfl|rfl|rfl|rfl|rfl
    ·exact⟨y1,same 0 _ rfl,j1⟩
    ·exact⟨y2,same 1 _ rfl,j2⟩
    ·rw[iB 2 _ rfl]at hx;exact absurd (Option.some.inj hx) (n1 x)
    ·exact⟨y3,same 3 _ rfl,j3⟩
    ·exact⟨y4,same 4 _ rfl,j4⟩
    ·rw[iB 5 _ rfl]at hx;exact absurd (Option.some.inj hx) (n2 x)
    ·rw[iB 6 _ rfl]at hx;exact absurd (Option.some.inj hx) (n3 x)
    ·rw[iB 7 _ rfl]at hx;exact absurd (Option.some.inj hx) (n4 x)
   ·refine⟨x,?_,hi⟩;simp only[rd,hb,List.getElem?_toArray]at hx;simp only[rd,ko,List.getElem?_toArray];rw[List.getElem?_append_right (by simp;omega)]at hx ⊢;simpa using hx
 ·exact⟨x,by rw[nO e];exact hx,hi⟩
theorem zU.put {h:Heap} {b c:Nat} {aS:List (List Value)} {A:List cL} (r:zU h b c aS A) {i:Nat} (hi:i < A.length) {eG:List Value} {m':cL} {pre post:List Value} {t:TypeId} (hr:i < aS.length) (hb:h b=some (.cells (pre++aS[i]++post).toArray t (0,0)))
  (fe:∀ eG h',eG.length=8->h' b=some (.cells (pre++eG++post).toArray t (0,0))->cr 8 h' (.slice (some ⟨b,0,none⟩) A.length c) (aS.set i eG) [b]) (hm:pF h b eG m') :
  ∃ A' m2,zU (h.set b (.cells (pre++eG++post).toArray t (0,0))) b c (aS.set i eG) A'/\A'.length=A.length/\(∀ j (h1:j < A.length) (h2:j < A'.length),j≠i->G2 A[j] A'[j]/\A'[j].args=A[j].args)/\(∀ h2:i < A'.length,A'[i]=m2)/\G2 m' m2/\m2.args=m'.args:=by
 have Qh:=vX hb (r.each i hr hi).G3 hm.G3;have ho:∀ x,x≠b->(h.set b (.cells (pre++eG++post).toArray t (0,0))) x=h x:=λx hx=>by simp[Heap.set,hx]
 have NZ:eG.length=8:=by obtain⟨_,_,_,_,_,_,_,_,e,_⟩:=hm.G3;rw[e];rfl
 obtain⟨m2,f2,k2,a2⟩:=hm.over Qh ho;have hq:∀ j,j < A.length->∃ mj,(∀ h1:j < (aS.set i eG).length,pF (h.set b (.cells (pre++eG++post).toArray t (0,0))) b (aS.set i eG)[j] mj)/\(∀ h1:j < A.length,j≠i->G2 A[j] mj/\mj.args=A[j].args)/\(j=i->mj=m2):=by
  intro j hj;by_cases e:j=i
  ·subst e;exact⟨m2,λh1=>by simpa using f2,λ_ cH=>absurd rfl cH,λ_=>rfl⟩
  ·obtain⟨mj,f,k,a⟩:=(r.each j (by rw[r.len];exact hj) hj).over Qh ho;refine⟨mj,λh1=>?_,λ_ _=>⟨k,a⟩,λh=>absurd h e⟩;rw[List.getElem_set_ne (λe'=>e e'.symm)];exact f
 obtain⟨A',hA,TF⟩:=jT (Q:=λj mj=>(∀ h1:j < (aS.set i eG).length,pF (h.set b (.cells (pre++eG++post).toArray t (0,0))) b (aS.set i eG)[j] mj)/\(∀ h1:j < A.length,j≠i->G2 A[j] mj/\mj.args=A[j].args)/\(j=i->mj=m2)) A.length hq;refine⟨A',m2,⟨?_,by rw[List.length_set,hA];exact r.len,λj h1 h2=>(TF j A'[j] (by simp[h2])).1 h1⟩,hA,λj h1 h2 cH=>(TF j A'[j] (by simp[h2])).2.1 h1 cH,λh2=>(TF i A'[i] (by simp[h2])).2.2 rfl,k2,a2⟩;rw[hA];exact fe eG _ NZ (dh _ _ _)
def TG (g0:Heap):Prop:=∀(b:Nat) (cs:Array Value) (t:TypeId) (z:Nat × Nat),g0 b=some (Obj.cells cs t z)->∃(i:Nat) (x:Int),cs[i]? = some (.int .u8 x)
theorem tA.since {g0 h:Heap} {b:Nat} {a:Value} {l:List Int} (hB:TG g0) (hl:g0.le h) (hz:tA (bh h b) a l):tA (bh (Go.Proofs.since g0 h) b) a l:=by
 obtain⟨B,hz⟩:=hz;rcases hz with ⟨rfl,rfl,rfl⟩|⟨c,r,t,rfl,hb,hi,rfl⟩
 ·exact⟨[],.inl ⟨rfl,rfl,rfl⟩⟩
 ·refine⟨[c],.inr ⟨c,r,t,rfl,?_,hi,rfl⟩⟩;have cH:c≠b:=by
   rintro rfl;simp[bh]at hb
  have fO:h c=some (.cells ((l++r).map (Value.int .i64)).toArray t (0,0)):=by
   unfold bh at hb;rw[if_neg cH]at hb;exact hb
  have hn:g0 c=none:=by
   cases e:g0 c with
   | none=>rfl
   | some o =>
    have:=hl _ _ e;rw[fO]at this;rw[<-Option.some.inj this]at e;obtain⟨i,x,hx⟩:=hB _ _ _ _ e;simp only[List.getElem?_toArray,List.getElem?_map]at hx;cases hy:(l++r)[i]? with
    | none=>rw[hy]at hx;cases hx
    | some y=>rw[hy]at hx;simp at hx
  unfold bh;rw[if_neg cH,fE hn];exact fO
theorem MS {h:Heap} {v:Value} {cs:List eD} {B:List Nat} (ho:eN pz 2 h v cs B) (ok:cI cs):fP h v cs:=by
 refine ho.row (by have:=ok.2.1;omega) λx a C ha hR=>?_;obtain⟨i,hi,rfl⟩:=List.mem_iff_getElem.1 ha;obtain⟨w,rfl,o⟩:=hR;obtain⟨f1,f2,f3,f4,f5⟩:=ok.2.2 i hi;have h5:=ok.2.1;have hs:cY cs[i].bU:=by
  unfold cY;have:i=0\/i=1\/1 < i:=by omega
  rcases this with e|e|e
  ·have:=f2 e;omega
  ·have:=f3 e;omega
  ·have:=f4 e;omega
 refine⟨w,rfl,hs,cr.C4 o (by omega) λt ht=>⟨rfl,?_⟩⟩;have:=f1 t ht;unfold dg at this;unfold cY;omega
structure JB (h:Heap) (bm:Nat) (n:Nat) (whole:Bool) (rec:List Value) (m:cL):Prop where
 head:fQ n m
 hd:whole=false->∃ a,rec=eR m.cls m.fG a m.out m.locals/\m.code=[]/\m.aQ=[]/\m.catches=[]
 wh:whole=true->(1<=m.code.length/\m.code.length<=12)/\m.aQ.length=m.code.length/\JA m.locals m.aQ /\
  ∃ a bc cc bs cs kv,rec=[.int .i64 m.cls,.int .i64 m.fG,a,.int .i64 m.out,.int .i64 m.locals,.slice (some ⟨bc,0,none⟩) m.code.length cc,.slice (some ⟨bs,0,none⟩) m.aQ.length cs,kv]/\(bc≠bm/\bs≠bm) /\
   ((kv=.slice none 0 0/\m.catches=[])\/∃ bk,kv=.slice (some ⟨bk,0,none⟩) 1 1/\m.catches.length=1)
theorem G2.mid {h:Heap} {bm n:Nat} {whole:Bool} {rec:List Value} {m m':cL} (k:G2 m m') (ha:m'.args=m.args) (hm:JB h bm n whole rec m):JB h bm n whole rec m':=by
 refine⟨?_,λhw=>?_,λhw=>?_⟩
 ·have:=hm.head;unfold fQ cG at this ⊢;rw[k.cls,k.fG,k.out,k.locals,ha];exact this
 ·obtain⟨a,e,e1,e2,e3⟩:=hm.hd hw;refine⟨a,by rw[k.cls,k.fG,k.out,k.locals];exact e,List.eq_nil_of_length_eq_zero (by rw[k.code,e1];rfl),List.eq_nil_of_length_eq_zero (by rw[k.aQ,e2];rfl),List.eq_nil_of_length_eq_zero (by rw[k.catches,e3];rfl)⟩
 ·obtain⟨h1,h2,h3,a,pc,cc,bs,cs,kv,e,h4,h5⟩:=hm.wh hw;refine⟨by rw[k.code];exact h1,by rw[k.code,k.aQ];exact h2,by rw[k.locals];exact k.adh _ h3,a,pc,cc,bs,cs,kv,by rw[k.cls,k.fG,k.out,k.locals,k.code,k.aQ];exact e,h4,h5.imp (λh=>⟨h.1,List.eq_nil_of_length_eq_zero (by rw[k.catches,h.2];rfl)⟩) λ⟨bk,e1,e2⟩=>⟨bk,e1,by rw[k.catches];exact e2⟩⟩
structure qQ (g0 g:Heap) (cp:Option Addr) (cc:Nat) (cs:List eD) (bm cm:Nat) (aS:List (List Value)) (A:List cL) (k:Nat):Prop where
 cls:fP (bh (since g0 g) bm) (.slice cp cs.length cc) cs
 ok:cI cs
 row:zU (since g0 g) bm cm aS A
 num:1<=A.length/\A.length<=4
 mid:∀ i (h1:i < aS.length) (h2:i < A.length),JB (since g0 g) bm cs.length (decide (i < k)) aS[i] A[i]
theorem qQ.aJ {g0 g g':Heap} {cp:Option Addr} {cc:Nat} {cs:List eD} {bm cm:Nat} {aS:List (List Value)} {A:List cL} {k:Nat} (u:qQ g0 g cp cc cs bm cm aS A k) (hl:g.le g'):qQ g0 g' cp cc cs bm cm aS A k :=
 ⟨u.cls.le (cy _ (cF g0 hl)) (λ_ _ hx=>hx.le (cy _ (cF g0 hl))),u.ok,u.row.le (cF g0 hl),u.num,λi h1 h2=>⟨(u.mid i h1 h2).head,(u.mid i h1 h2).hd,(u.mid i h1 h2).wh⟩⟩
theorem qQ.JC {g0 g:Heap} {cp:Option Addr} {cc:Nat} {cs:List eD} {bm cm:Nat} {aS:List (List Value)} {A:List cL} {k:Nat} (u:qQ g0 g cp cc cs bm cm aS A k):dG (since g0 g) [.slice cp cs.length cc,.slice (some ⟨bm,0,none⟩) A.length cm] ⟨cs,A⟩ :=
 ⟨_,_,rfl,u.cls.le (iq _ _) (λ_ _ hx=>hx.le (iq _ _)),u.row.zD (by have:=u.num;omega)⟩
theorem qQ.TH {g0 g:Heap} {cp:Option Addr} {cc:Nat} {cs:List eD} {bm cm:Nat} {aS:List (List Value)} {A:List cL} {k:Nat} (u:qQ g0 g cp cc cs bm cm aS A k):GI ⟨cs,A⟩:=by
 refine⟨u.ok,λm hm=>?_⟩;obtain⟨i,hi,rfl⟩:=List.mem_iff_getElem.1 hm;have:=(u.mid i (by rw[u.row.len];exact hi) hi).head;have h2:=this.2.1;exact⟨by show A[i].args.length<=3;omega,this.2.2.2.1,this.2.2.1⟩
theorem qQ.fresh {g0 g:Heap} {cp:Option Addr} {cc:Nat} {cs:List eD} {bm cm:Nat} {aS:List (List Value)} {A:List cL} {k:Nat} (u:qQ g0 g cp cc cs bm cm aS A k):g0 bm=none/\∃ o,g bm=some o:=by
 obtain⟨o,ho⟩:=u.row.own.in bm (by simp);obtain⟨h1,h2⟩:=eF ho;exact⟨h1,o,h2⟩
theorem qQ.put {g0 g:Heap} {cp:Option Addr} {cc:Nat} {cs:List eD} {bm cm:Nat} {aS:List (List Value)} {A:List cL} {k:Nat} (u:qQ g0 g cp cc cs bm cm aS A k) (hk:k < A.length) {eG:List Value} {m':cL} (hm:pF (since g0 g) bm eG m') (hM:JB (since g0 g) bm cs.length true eG m') :
  ∃ hr:k < aS.length,∃ pre post t,g bm=some (.cells (pre++aS[k]++post).toArray t (0,0))/\pre.length=k*8/\eG.length=8/\aS[k].length=8 /\
   ∃ Ik A',qQ g0 (g.set bm (.cells (pre++eG++post).toArray t (0,0))) cp cc cs bm cm Ik A' (k+1)/\A'.length=A.length:=by
 obtain⟨hr,_,hf,pre,post,t,hb,hp,fe⟩:=u.row.at hk;obtain⟨h0,_⟩:=u.fresh;obtain⟨A',m2,r2,n2,o2,s2,k2,a2⟩:=u.row.put hk hr hb fe hm;have bA:g bm=some (.cells (pre++aS[k]++post).toArray t (0,0)):=(eF hb).2;have NZ:eG.length=8:=by obtain⟨_,_,_,_,_,_,_,_,e,_⟩:=hm.G3;rw[e];rfl
 have TJ:aS[k].length=8:=by obtain⟨_,_,_,_,_,_,_,_,e,_⟩:=hf.G3;rw[e];rfl
 have hsg:since g0 (g.set bm (.cells (pre++eG++post).toArray t (0,0)))=(since g0 g).set bm (.cells (pre++eG++post).toArray t (0,0)):=mN h0;refine⟨hr,pre,post,t,bA,hp,NZ,TJ,aS.set k eG,A',⟨?_,u.ok,by rw[hsg];exact r2,by rw[n2];exact u.num,λi h1 h2=>?_⟩,n2⟩
 ·rw[hsg,zC];exact u.cls
 ·have jx:i < A.length:=by rw[<-n2];exact h2
  have F3:i < aS.length:=by simpa using h1
  by_cases e:i=k
  ·subst e;rw[s2 h2];have:=k2.mid a2 hM;have hd:decide (i < i+1)=true:=by simp
   rw[hd];simp only[List.getElem_set_self];exact⟨this.head,this.hd,this.wh⟩
  ·obtain⟨kk,aa⟩:=o2 i jx h2 e;have:=kk.mid aa (u.mid i F3 jx);have hd:decide (i < k+1)=decide (i < k):=by
    by_cases e1:i < k
    ·simp[e1];omega
    ·simp[e1];omega
   rw[hd,List.getElem_set_ne (λe'=>e e'.symm)];exact⟨this.head,this.hd,this.wh⟩
theorem zV {pre x y post:List Value} {n:Nat} (hn:n=pre.length) (hl:y.length=x.length):eS (pre++x++post) n y=pre++y++post:=by
 subst hn;rw[List.append_assoc,iK y pre (x++post) (by simp;omega),hl,List.drop_left]
theorem MT {Gb G:Heap} {u:aO} {m m':cL} {a:Value} {rec:List Value} {bm n:Nat} (made:Ih Gb G u m a rec m') (az:tA (bh G bm) a m.args) (an:m.args.length<=100) (iR:∃ o,Gb bm=some o) (hH:fQ n m):pF G bm rec m'/\JB G bm n true rec m':=by
 obtain⟨pc,kc,bs,ks,kv,e,Av,pV⟩:=made.form.form;have cH:bs≠bm:=by
  rintro rfl;obtain⟨o,ho⟩:=iR;rw[Av.2]at ho;cases ho
 have U1:pc≠bm:=by
  rintro rfl;obtain⟨o,ho⟩:=iR;rw[Av.1]at ho;cases ho
 obtain⟨a0,c0,s0,k0,e0,i1,i2,i3,i4,w1,w2,w3,w4⟩:=made.read;have e0':=e0;rw[e]at e0';simp only[List.cons.injEq,and_true,true_and]at e0';obtain⟨rfl,rfl,rfl,rfl⟩:=e0';have hsm:=made.same;have Ai:0<=m'.locals:=by have:=(made.same.Re hH).2.2.2.2.2;omega
 refine⟨⟨a,_,_,_,e0,i1,i2,i3,i4,⟨by rw[hsm.2.2.1];exact az,by rw[hsm.2.2.1];exact an⟩,w2,w3,w4,λp n cc h=>.inr ?_⟩,⟨made.same.Re hH,(λh=>nomatch h),λ_=>⟨made.ms.mi.len,made.ms.num,made.ms.val.adg Ai,a,pc,kc,bs,ks,kv,e,⟨U1,cH⟩,pV⟩⟩⟩;simp only[Z_]at h;exact⟨bs,0,h.1.symm,cH⟩
theorem MU {g0 g:Heap} {b:Nat} {x y:ez} {t:TypeId} (hb:g0 b=none) (e:g b=some (.cells (dV x++dV y).toArray t (0,0))) (h1:cY x.kind/\cY x.a/\cY x.b) (h2:cY y.kind/\cY y.a/\cY y.b):Row 3 DU (since g0 g) (.slice (some ⟨b,0,none⟩) 2 2) [x,y]:=by
 have ho:cr 3 (since g0 g) (.slice (some ⟨b,0,none⟩) 2 2) ([x,y].map dV) [b]:=⟨λz hz=>by obtain⟨w,_,rfl⟩:=List.mem_map.1 hz;rfl,.inr ⟨b,2,[],t,rfl,by simp,by rw[fE hb];simpa using e,by simp[dV],rfl⟩⟩
 refine ho.C4 (by simp) λz hz=>⟨rfl,?_⟩
 simp only[List.mem_cons,List.not_mem_nil,or_false]at hz;rcases hz with rfl|rfl
 ·exact h1
 ·exact h2
theorem qQ.st {gB g0 g:Heap} {cp:Option Addr} {cc:Nat} {cs:List eD} {bm cm:Nat} {aS:List (List Value)} {A:List cL} {k off bb:Nat} {vb:Value} {p q:Int} {K:Heap->Prop} {eG:List Value} {m':cL} (u:qQ g0 g cp cc cs bm cm aS A k) (hk:k < A.length) (hF:pF (since g0 g) bm eG m'/\JB (since g0 g) bm cs.length true eG m')
  (r:bC g bb vb q) (r0:bC gB bb vb p) (hq:p<=q) (hgb:gB bm=none) (lg:gB.le g) (ho:off=0+k*8)
  (hK:∀ g' Ik A',gB.le g'->bC g' bb vb q->qQ g0 g' cp cc cs bm cm Ik A' (k+1)->A'.length=A.length->K (dz g' bb vb q)):St (dz g bb vb q) bm off eG K:=by
 obtain⟨hr,pre,post,tt,uC,hpp,l8,l8',Ik,A',u6,n6⟩:=u.put hk hF.1 hF.2;have PL:bb≠bm:=λe=>by have:=r.free;rw[e,uC]at this;cases this
 have Il:=Heap.aP (o:=Obj.cells (pre++eG++post).toArray tt (0,0)) lg hgb;exact jS r.free uC (by simp only[U_];omega) (zV (by omega) (by rw[l8,l8'])) (hK _ _ _ Il (r0.to Il (by simp[Heap.set,PL,r.free]) hq) u6 n6)
theorem BF {g0 g:Heap} {bb:Nat} {vb:Value} {p:Int} (r:bC g bb vb p) (hp:p<=30000000) (h0:g0.le g) (hB:TG g0) :
  Dr prog 51 [.pointer (some ⟨bb,0,none⟩)] g bb vb p 9000 λg' v=>∃ cp cc cs bm cm aS A,v=.agg #[.slice cp cs.length cc,.slice (some ⟨bm,0,none⟩) A.length cm]/\qQ g0 g' cp cc cs bm cm aS A A.length/\g bm=none:=by
 refine bZ au func51 G51 Z6 rfl ?_;conv=>whnf
 refine gY r (vR r (by omega)) (λv g1 q1 l1 r1 q10 q11 hA=>?_);obtain⟨cs,B,oc,J1,xd,ok⟩:=hA;have f:=oc.form;obtain⟨cp,cc,rfl,N0⟩:=f;conv=>whnf
 refine gY r1 (GU cp cs.length cc r1 (by omega) ⟨ok.1,ok.2.1⟩) (λv g2 q2 l2 r2 q20 q21 hA=>?_);obtain⟨bm,cm,ms,rfl,ng,AX,hn4,MV⟩:=hA;have NY:=y_ h0 l1;have h02:=y_ NY l2;have hfm:g0 bm=none:=br NY ng.fr;have hrw:=ng.row;obtain⟨aS,aaq,aar,TK⟩:=hrw;have u2:qQ g0 g2 cp cc cs bm cm aS ms 0:=by
  refine⟨MS (oc.aJ tM λb hb o ho=>?_) ok,ok,⟨aaq.aJ (kQ λb hb=>by rw[V_.1 hb];exact hfm),aar,λi h1 h2=>?_⟩,⟨AX,hn4⟩,λi h1 h2=>?_⟩
  ·have cH:b≠bm:=by
    rintro rfl;rw[ng.fr]at ho;cases ho
   unfold bh;rw[if_neg cH,fE (br h0 (xd b hb))];exact l2 _ _ ho
  ·obtain⟨a,e,z,e1,e2,e3⟩:=TK i h1 h2;have hd:=MV ms[i] (x_ h2);obtain⟨i1,i2,i3,i4⟩:=zS hd ok.2.1;exact⟨a,_,_,_,e,i1,i2,i3,i4,⟨z.since hB h02,by have:=hd.2.1;omega⟩,by rw[e1];exact jF _,by rw[e2];exact jF _,by rw[e3];exact jF _,λp n cc h=>.inl (by simp only[Z_]at h;exact h.2.1.symm)⟩
  ·obtain⟨a,e,z,e1,e2,e3⟩:=TK i h1 h2;exact⟨MV ms[i] (x_ h2),λ_=>⟨a,e,e1,e2,e3⟩,λh=>by simp at h⟩
 have hgb:g bm=none:=br l1 ng.fr;have Ut:=y_ l1 l2;clear ng aaq aar TK MV oc J1 xd N0;conv=>whnf
 refine fh [0,2,3,4] [2,3] (λy:Nat × (Heap × Int) × List (List Value) × List cL=>y.1<=ms.length/\y.2.2.2.length=ms.length/\g.le y.2.1.1/\bC y.2.1.1 bb vb y.2.1.2/\p<=y.2.1.2/\y.2.1.2<=p+300+2110*(y.1:Int)/\qQ g0 y.2.1.1 cp cc cs bm cm y.2.2.1 y.2.2.2 y.1) (λy=>ms.length-y.1)
  (λy=>([.v (.pointer (some ⟨bb,0,none⟩)),.l 2 0,.l 3 0,.v (.int .i64 y.1)],[some [.slice none 0 0,.slice none 0 0],some [.slice cp cs.length cc,.slice (some ⟨bm,0,none⟩) ms.length cm]],dz y.2.1.1 bb vb y.2.1.2))
  (0,(g2,q2),aS,ms) ⟨Nat.zero_le _,rfl,Ut,r2,by simp only;omega,by simp only;omega,u2⟩ rfl ?_
 clear u2 r2 Ut;rintro⟨i,⟨g3,q3⟩,aS,A⟩ ⟨hi,hA,l3,r3,qL,s9,u3⟩;simp only at hi hA l3 r3 qL s9 u3 ⊢;conv=>whnf
 apply ax<;>intro gi;all_goals conv=>whnf
 ·have hiA:i < A.length:=by omega
  have f:=u3.row.at hiA;obtain⟨wD,e3,hf3,_⟩:=f;have Uo:=u3.mid i wD hiA;have nX:decide (i < i)=false:=by simp
  rw[nX]at Uo;have hh:=Uo.hd rfl;obtain⟨a,ea,ec1,ec2,Rf⟩:=hh;have hd:=Uo.head;rw[ea]at e3;clear Uo;generalize A[i]=mi at hf3 ea ec1 ec2 Rf hd e3;have hex:=hf3.ex;obtain⟨a',_,_,_,ea',i1,i2,i3,i4,⟨az,an⟩,_⟩:=hex;have haa:a'=a:=by
   rw[ea]at ea';unfold eR at ea';simp only[List.cons.injEq]at ea';exact ea'.2.2.1.symm
  subst haa;have f:=az.form;obtain⟨ap,ac,rfl⟩:=f;have h03:g0.le g3:=y_ h0 l3;have Ds:fj (dz g3 bb vb q3) bm (0+i*8) 8=some (eR mi.cls mi.fG (.slice ap mi.args.length ac) mi.out mi.locals):=bK (aY r3.free) (bK (aM _ _) e3);unfold eR at Ds;have Qh:dy (since g0 g3) (.slice ap mi.args.length ac) mi.args:=(az.ints (by omega)).le (iq _ _);rw[<-hA];refine aq ?_;conv=>whnf
  refine ptr ?_;conv=>whnf
  refine dJ Ds ?_;conv=>whnf
  refine gY r3 (Jy _ ⟨cs,A⟩ mi (.slice ap mi.args.length ac) r3 (by omega) h03 u3.JC Qh u3.TH (by have:=u3.num;show A.length<=100;omega) hd ec1 ec2 Rf) (λv g4 q4 l4 r4 MM MN hM=>?_);obtain⟨rec,m',rfl,made⟩:=hM;have u4:=u3.aJ l4;have hpn:=u3.num;have lg4:=y_ l3 l4;have h04:=y_ h0 lg4;have adi:∃ o,since g0 g3 bm=some o:=u3.row.own.in bm (by simp);have az4:=az.le (cy bm (cF g0 l4));have Fq:=made.form.form;obtain⟨pc,kc,bs,ks,kv,rfl,Av,pV⟩:=Fq;have hkf:∃ p n c,kv=Value.slice p n c:=by
   rcases pV with ⟨rfl,_⟩|⟨bk,rfl,_⟩
   ·exact⟨_,_,_,rfl⟩
   ·exact⟨_,_,_,rfl⟩
  obtain⟨pk,nk,ck,rfl⟩:=hkf;conv=>whnf
  refine PC r4 h04 (si _ _ ⟨cs,A⟩ m' (since g0 g4) u4.JC made.read u4.TH made.ms) (λv g5 l5 r5 hr=>?_);obtain⟨sl,rfl,_⟩:=hr;have u5:=u4.aJ l5;have lg5:=y_ lg4 l5;have h05:=y_ h0 lg5;conv=>whnf
  cases eP:(ey ⟨cs,A⟩ m').2
  ·have adj:fj (dz g5 bb vb q4) bm (0+i*8) 8=some [.int .i64 mi.cls,.int .i64 mi.fG,.slice ap mi.args.length ac,.int .i64 mi.out,.int .i64 mi.locals,.slice none 0 0,.slice none 0 0,.slice none 0 0]:=bK (aY r5.free) (bK (y_ l4 l5) (bK (aM _ _) e3));have aas:dy (since g0 g5) (.slice ap mi.args.length ac) mi.args:=Qh.le (cF g0 (y_ l4 l5));conv=>whnf
   refine aq ?_;conv=>whnf
   refine ptr ?_;conv=>whnf
   refine dJ adj ?_;conv=>whnf
   refine gY r5 (zL _ mi r5 (by omega) (BD hd ok.2.1 (aas.le (aM _ _)) ec1 ec2 Rf)) (λv g6 q6 l6 r6 q60 q61 hE=>?_);refine hE.elim λb6 hE=>hE.elim λx hE=>hE.elim λy hE=>?_;have hv:=hE.1;subst hv;have xX:=hE.2.1;have e6:=hE.2.2.1;have KK:=hE.2.2.2;have lg6:=y_ lg5 l6;have h06:=y_ h0 lg6;have u6:=u5.aJ l6;have N2:eU ⟨cs,A⟩ {mi with code:=[x,y]} x/\eU ⟨cs,A⟩ {mi with code:=[x,y]} y:=by
    have h2:=ok.1;rcases KK with ⟨rfl,rfl⟩|⟨rfl,rfl|⟨w,rfl,w0,w1⟩⟩
    ·exact⟨(aI (p:=5) (q:=0) rfl).2 ⟨by unfold bz;simp;omega,rfl⟩,(aI (p:=0) (q:=0) rfl).2 ⟨rfl,rfl⟩⟩
    ·exact⟨(aI (p:=0) (q:=0) rfl).2 ⟨rfl,rfl⟩,(aI (p:=0) (q:=0) rfl).2 ⟨rfl,rfl⟩⟩
    ·exact⟨(aI (p:=1) (q:=0) rfl).2 ⟨by unfold bz;simp[fJ];omega,rfl⟩,(aI (p:=0) (q:=0) rfl).2 ⟨rfl,rfl⟩⟩
   have tQ:=hd.2.2.2.2.1;have bx:=vW N2.1 ok (by show A.length<=100;omega) (by show mi.locals<=1000;omega) (by simp);have by_:=vW N2.2 ok (by show A.length<=100;omega) (by show mi.locals<=1000;omega) (by simp);have oT:=MU (br h05 xX) e6 (by unfold cY;omega) (by unfold cY;omega);have aat:=aas.le (cF g0 l6);have TE:eM (since g0 g6) [.int .i64 mi.cls,.int .i64 mi.fG,.slice ap mi.args.length ac,.int .i64 mi.out,.int .i64 mi.locals,.slice (some ⟨b6,0,none⟩) 2 2,.slice none 0 0,.slice none 0 0] {mi with code:=[x,y]} :=
    ⟨_,_,_,_,rfl,i1,i2,i3,i4,aat,oT,by rw[show({mi with code:=[x,y]}:cL).aQ=[]from ec2];exact jF _,by rw[show({mi with code:=[x,y]}:cL).catches=[]from Rf];exact jF _⟩
   have QU:Td ⟨cs,A⟩ {mi with code:=[x,y]}:=⟨hd,by simp,λz hz=>by
    simp only[List.mem_cons,List.not_mem_nil,or_false]at hz;rcases hz with rfl|rfl
    ·exact N2.1
    ·exact N2.2,by
    refine⟨by rw[show({mi with code:=[x,y]}:cL).catches=[]from Rf];simp,λz hz=>?_⟩;rw[show({mi with code:=[x,y]}:cL).catches=[]from Rf]at hz;cases hz⟩
   conv=>whnf
   refine PC r6 h06 (sq _ ⟨cs,A⟩ {mi with code:=[x,y]} (since g0 g6) ap (some ⟨b6,0,none⟩) none none mi.args.length 2 0 0 ac 2 0 0 u6.JC TE u6.TH QU) (λv g7 l7 r7 hr=>?_);refine hr.elim λb7 hr=>hr.elim λc7 hr=>hr.elim λA7 hr=>?_;have hv:=hr.1;subst hv;have aA:=hr.2.1;have nA:=hr.2.2.1;have vA:=hr.2.2.2;have lg7:=y_ lg6 l7;have ls:=cF g0 l7;have u7:=u6.aJ l7;have hnA:A7.length=2:=by rw[nA];rfl
   have adk:since g0 g5 b6=none:=qz xX;have aau:Ih (since g0 g5) (since g0 g7) ⟨cs,A⟩ mi (.slice ap mi.args.length ac) [.int .i64 mi.cls,.int .i64 mi.fG,.slice ap mi.args.length ac,.int .i64 mi.out,.int .i64 mi.locals,.slice (some ⟨b6,0,none⟩) 2 2,.slice (some ⟨b7,0,none⟩) A7.length c7,.slice none 0 0] {mi with code:=[x,y],aQ:=A7} :=
    ⟨⟨rfl,rfl,rfl,rfl,rfl⟩,⟨_,_,_,_,rfl,i1,i2,i3,i4,aat.le ls,oT.le ls (λ_ _ hx=>hx),aA.zD (by omega),by rw[show({mi with code:=[x,y],aQ:=A7}:cL).catches=[]from Rf];exact jF _⟩,⟨⟨QU.head,QU.len,QU.code,QU.cat⟩,nA,vA⟩,⟨_,_,_,_,_,rfl,⟨adk,br (cF g0 l6) aA.fr⟩,.inl ⟨rfl,Rf⟩⟩⟩
   have MW:∃ o,since g0 g5 bm=some o:=u5.row.own.in bm (by simp);have hF:=MT (n:=cs.length) aau (((az4.le (cy bm (cF g0 l5))).le (cy bm (cF g0 l6))).le (cy bm ls)) (by have:=hd.2.1;omega) MW hd;conv=>whnf
   refine aq ?_;conv=>whnf
   refine ptr ?_;conv=>whnf
   refine u7.st hiA hF r7 r (by omega) hgb lg7 rfl (λg9 MX A9 xe r9 u9 n9=>?_);conv=>whnf
   refine ah ?_;conv=>whnf
   exact dm (i+1,(g9,_),MX,A9) ⟨by simp only;omega,by simp only;omega,xe,r9,by simp only;omega,by simp only;omega,u9⟩ (by simp only;omega) rfl
  ·have aav:Ih (since g0 g3) (since g0 g5) ⟨cs,A⟩ mi (.slice ap mi.args.length ac) _ m':=⟨made.same,made.read.le (cF g0 l5),made.ms,made.form⟩
   have hF:=MT (n:=cs.length) aav (az4.le (cy bm (cF g0 l5))) (by have:=hd.2.1;omega) adi hd;conv=>whnf
   refine aq ?_;conv=>whnf
   refine ptr ?_;conv=>whnf
   refine u5.st hiA hF r5 r (by omega) hgb lg5 rfl (λg9 MX A9 xe r9 u9 n9=>?_);conv=>whnf
   refine ah ?_;conv=>whnf
   exact dm (i+1,(g9,_),MX,A9) ⟨by simp only;omega,by simp only;omega,xe,r9,by simp only;omega,by simp only;omega,u9⟩ (by simp only;omega) rfl
 ·have hik:i=A.length:=by omega
  have hpn:=u3.num;rw[<-hA];exact⟨_,_,rfl,l3,r3.free,by omega,by omega,cp,cc,cs,bm,cm,aS,A,rfl,by rw[<-hik];exact u3,hgb⟩
def DrW (P:Program) (f:FuncId) (args:List Value) (g0 g:Heap) (bb:Nat) (vb:Value) (p k:Int) (A:Heap->Value->Prop):Prop :=
 bI P f args (dz g bb vb p) λv h'=>∃ g' q,h'=dz g' bb vb q/\g0.le g'/\g' bb=none/\p<=q/\q<=p+k/\A g' v
theorem Rg {P:Program} {f:FuncId} {args:List Value} {g0 g:Heap} {bb:Nat} {vb:Value} {q0 p k:Int} {A:Heap->Value->Prop} {K:Value->Heap->Prop} {E:List PanicEntry->Heap->Prop} (r0:bC g0 bb vb q0) (hq:q0<=p) (hc:DrW P f args g0 g bb vb p k A)
  (hk:∀ v g' q,g0.le g'->bC g' bb vb q->p<=q->q<=p+k->A g' v->K v (dz g' bb vb q)):Go.Vc.Call P f args (dz g bb vb p) K E :=
 aC hc λv h' hh=>by
  obtain⟨g',q,rfl,hl,hb,h1,h2,hA⟩:=hh;exact hk v g' q hl (r0.to hl hb (by omega)) h1 h2 hA
theorem oF {g:Heap} {b:Nat} {cs:Array Value} {t:TypeId} {z:Nat × Nat} (hb:g b=some (.cells cs t z)):∀ {n off:Nat} {vs:List Value},0 < n->fj g b off n=some vs->∃ pre post,cs.toList=pre++vs++post/\pre.length=off:=by
 intro n off vs hn hr;have hl:=Cl hr;have hle:off+n<=cs.toList.length:=by
  have h1:∃ v,vs[n-1]? = some v:=⟨vs[n-1]'(by omega),w_ (by omega)⟩
  obtain⟨v,hv⟩:=h1;have h2:=aE hr hv;simp only[rd,hb]at h2;have:=(Array.getElem?_eq_some_iff.1 h2).1;simp;omega
 have bA:g b=some (.cells cs.toList.toArray t z):=by simpa using hb
 have h3:=bO bA n off hle;rw[hr]at h3;refine⟨cs.toList.take off,cs.toList.drop (off+n),?_,by rw[List.length_take];omega⟩;rw[Option.some.inj h3,List.append_assoc];have:(cs.toList.drop off).take n++cs.toList.drop (off+n)=cs.toList.drop off:=by
  rw[<-List.drop_drop,List.take_append_drop]
 rw[this,List.take_append_drop]
theorem pG {α:Type} {sz:Nat} {R:Heap->List Value->α->Prop} {g0 g:Heap} {p:Option Addr} {n c:Nat} {l:List α} (hr:Row sz R (since g0 g) (.slice p n c) l) (nz:PD (since g0 g)) (hs:0 < sz) {i:Nat} (hi:i < l.length) :
  ∃ b off vs pre post t,p=some ⟨b,off,none⟩/\g0 b=none/\g b=some (.cells (pre++vs++post).toArray t (0,0))/\(since g0 g) b=some (.cells (pre++vs++post).toArray t (0,0))/\pre.length=off+i*sz/\fj (since g0 g) b (off+i*sz) sz=some vs/\R (since g0 g) vs l[i]:=by
 obtain⟨b,off,vs,hp,h1,h2⟩:=hr.get hi;have Av:∃ cs t z,since g0 g b=some (.cells cs t z):=by
  obtain⟨v,hv⟩:∃ v,vs[0]? = some v:=⟨vs[0]'(by rw[Cl h1];exact hs),w_ _⟩
  have h3:=aE h1 hv;unfold rd at h3;split at h3
  ·rename_i cs t z hx;exact⟨cs,t,z,hx⟩
  ·cases h3
 obtain⟨cs,t,z,hb⟩:=Av;have hz:=nz _ _ _ _ hb;subst hz;obtain⟨pre,post,e,hl⟩:=oF hb hs h1;have e':cs=(pre++vs++post).toArray:=by rw[<-e]
 rw[e']at hb;exact⟨b,off,vs,pre,post,t,hp,(eF hb).1,(eF hb).2,hb,hl,h1,h2⟩
structure x6 (g g':Heap) (bm:Nat):Prop where
 int:xY g g'
 bool:∀ b off x,b≠bm->rd g b off=some (.bool x)->∃ x',rd g' b off=some (.bool x')
 row:∀ b off v l,b≠bm->rd g b off=some v->dy g v l->∃ v' l',rd g' b off=some v'/\dy g' v' l'
theorem xN.Dt {g g':Heap} (a:xN g g') (bm:Nat):x6 g g' bm:=⟨a.int,λb off x _ h=>a.bool b off x h,λb off v l _ h i=>a.row b off v l h i⟩
theorem x6.trans {g g1 g2:Heap} {bm:Nat} (a:x6 g g1 bm) (c:x6 g1 g2 bm):x6 g g2 bm where
 int:=λb off x h i=>by
  obtain⟨y,h1,i1⟩:=a.int b off x h i;exact c.int b off y h1 i1
 bool:=λb off x hb h=>by
  obtain⟨y,h1⟩:=a.bool b off x hb h;exact c.bool b off y hb h1
 row:=λb off v l hb h i=>by
  obtain⟨v1,l1,h1,i1⟩:=a.row b off v l hb h i;exact c.row b off v1 l1 hb h1 i1
theorem C7 {g:Heap} {b:Nat} {pre post rec eG:List Value} {t:TypeId} (hb:g b=some (.cells (pre++rec++post).toArray t (0,0))) (h1:E5 rec) (h2:E5 eG):x6 g (g.set b (.cells (pre++eG++post).toArray t (0,0))) b:=by
 have ai:=vX hb h1 h2;refine⟨ai,λc off x hc h=>⟨x,by rw[nO hc];exact h⟩,λc off v l hc h i=>?_⟩;obtain⟨l',i',_⟩:=gD ai i;exact⟨v,l',by rw[nO hc];exact h,i'⟩
structure pH (h:Heap) (bm:Nat) (rec:List Value) (m:cL):Prop where
 read:eM h rec m
 at_:∀ x1 x2 a x3 x4 c p n cc k,rec=[.int .i64 x1,.int .i64 x2,a,.int .i64 x3,.int .i64 x4,c,.slice p n cc,k]->n=0\/∃ bs off,p=some ⟨bs,off,none⟩/\bs≠bm
theorem MY {g g':Heap} {bm:Nat} (a:x6 g g' bm) {p:Option Addr} {n c:Nat} {l:List dY} (hr:Row 3 mV g (.slice p n c) l) (hb:n=0\/∃ bs off,p=some ⟨bs,off,none⟩/\bs≠bm):∃ l',Row 3 mV g' (.slice p n c) l':=by
 obtain⟨h1,p',c',e,h2,h3⟩:=hr;simp only[Z_]at e;obtain⟨rfl,rfl,rfl⟩:=e;rcases h3 with rfl|⟨b,off,rfl,hx⟩
 ·exact⟨[],by simp,p,c,rfl,by simp,.inl rfl⟩
 ·rcases hb with hb|⟨bs,eJ,e,Av⟩
  ·have:l=[]:=List.eq_nil_of_length_eq_zero hb;subst this;exact⟨[],by simp,_,c,rfl,by simp,.inl rfl⟩
  ·simp only[v_,Addr.mk.injEq,and_true]at e;obtain⟨rfl,rfl⟩:=e;obtain⟨l',hl,tn⟩:=jT (Q:=λi (x:dY)=>∃ vs,fj g' b (off+i*3) 3=some vs/\mV g' vs x) l.length (λi hi=>by
    obtain⟨vs,e1,l1,l2,rfl,i1,i2⟩:=hx i l[i] (by simp[hi]);obtain⟨h1,hv⟩:=dI e1;obtain⟨h2,hv⟩:=dI hv;obtain⟨h3,_⟩:=dI hv;obtain⟨x1,e1⟩:=a.bool _ _ _ Av h1;obtain⟨v1,m1,e2,j1⟩:=a.row _ _ _ _ Av h2 i1;obtain⟨v2,m2,e3,j2⟩:=a.row _ _ _ _ Av h3 i2;exact⟨⟨x1,m1,m2⟩,_,er e1 (er e2 (mF e3)),_,_,rfl,j1,j2⟩)
   exact⟨l',by omega,_,c,by rw[hl],by omega,.inr ⟨b,off,rfl,tn⟩⟩
theorem pH.UC {g g':Heap} {bm:Nat} {rec:List Value} {m:cL} (hm:pH g bm rec m) (a:x6 g g' bm):∃ m',eM g' rec m':=by
 obtain⟨a1,c,s,k,e,i1,i2,i3,i4,h1,h2,h3,h4⟩:=hm.read;obtain⟨l1,r1,_⟩:=gD a.int h1;obtain⟨l2,r2,n2⟩:=jg (yl a.int) h2;obtain⟨l4,r4,n4⟩:=jg (ym a.int) h4;obtain⟨p,cc,rfl,_,_⟩:=h3.len;obtain⟨l3,r3⟩:=MY a h3 (hm.at_ _ _ _ _ _ _ _ _ _ _ e);exact⟨⟨m.cls,m.fG,l1,m.out,m.locals,l2,l3,l4⟩,⟨a1,c,_,k,e,i1,i2,i3,i4,r1,r2,r3,r4⟩⟩
theorem pF.Dt {h:Heap} {b:Nat} {rec:List Value} {m:cL} (hm:pF h b rec m):pH h b rec m:=by
 refine⟨hm.toR,λx1 x2 a x3 x4 c p n cc k e=>?_⟩;obtain⟨a',c',s',k',e',_,_,_,_,_,_,_,_,h5⟩:=hm.ex;rw[e]at e';simp only[List.cons.injEq,and_true]at e';exact h5 p n cc e'.2.2.2.2.2.2.1.symm
theorem E6 {g g':Heap} {bm:Nat} (a:x6 g g' bm) {v:Value} {l:List eD} (hr:fP (bh g bm) v l):∃ l',fP g' v l':=by
 obtain⟨h1,p,c,rfl,h2,h3⟩:=hr;rcases h3 with rfl|⟨b,off,rfl,hx⟩
 ·exact⟨[],by simp,p,c,rfl,by simp,.inl rfl⟩
 ·obtain⟨l',hl,tn⟩:=jT (Q:=λi (x:eD)=>∃ vs,fj g' b (off+i*2) 2=some vs/\Ap g' vs x) l.length (λi hi=>by
   obtain⟨vs,e1,f,rfl,i1,i2⟩:=hx i l[i] (by simp[hi]);obtain⟨h1,hv⟩:=dI e1;obtain⟨h2,_⟩:=dI hv;have cH:b≠bm:=by
    rintro rfl;simp[rd,bh]at h1
   have un:∀ o,rd (bh g bm) b o=rd g b o:=λo=>by unfold rd bh;rw[if_neg cH]
   rw[un]at h1 h2;obtain⟨x1,e1,j1⟩:=a.int _ _ _ h1 i1;obtain⟨v',l',e2,j2⟩:=a.row _ _ _ _ cH h2 (i2.le (iq _ _));exact⟨⟨x1,l'⟩,_,er e1 (mF e2),_,rfl,j1,j2⟩)
  exact⟨l',by omega,_,c,by rw[hl],by omega,.inr ⟨b,off,rfl,tn⟩⟩
theorem qQ.end {g0 g g1:Heap} {cp:Option Addr} {cc:Nat} {cs:List eD} {bm cm:Nat} {aS:List (List Value)} {A:List cL} {k:Nat} (u:qQ g0 g cp cc cs bm cm aS A k) (a:x6 (since g0 g) (since g0 g1) bm) (gL:g1 bm=g bm) {i:Nat} (hi:i < A.length) {eG:List Value} {m':cL} (hm:pH (since g0 g1) bm eG m') (hL:E5 eG) :
  ∃ hr:i < aS.length,∃ pre post t,g1 bm=some (.cells (pre++aS[i]++post).toArray t (0,0))/\pre.length=i*8/\eG.length=8/\aS[i].length=8 /\
   (∀ g2,g2=g1.set bm (.cells (pre++eG++post).toArray t (0,0))->(∃ A',Row 8 eM (since g0 g2) (.slice (some ⟨bm,0,none⟩) A.length cm) A')/\(∃ l',fP (since g0 g2) (.slice cp cs.length cc) l')):=by
 obtain⟨hr,_,hf,pre,post,t,hb,hp,fe⟩:=u.row.at hi;obtain⟨h0,_⟩:=u.fresh;have hbg:g bm=some (.cells (pre++aS[i]++post).toArray t (0,0)):=(eF hb).2;have aaw:g1 bm=some (.cells (pre++aS[i]++post).toArray t (0,0)):=by rw[gL];exact hbg
 have G4:since g0 g1 bm=some (.cells (pre++aS[i]++post).toArray t (0,0)):=by rw[fE h0];exact aaw
 have NZ:eG.length=8:=by obtain⟨_,_,_,_,_,_,_,_,e,_⟩:=hL;rw[e];rfl
 have TJ:aS[i].length=8:=by obtain⟨_,_,_,_,_,_,_,_,e,_⟩:=hf.G3;rw[e];rfl
 refine⟨hr,pre,post,t,aaw,hp,NZ,TJ,λg2 e2=>?_⟩;have hsg:since g0 g2=(since g0 g1).set bm (.cells (pre++eG++post).toArray t (0,0)):=by rw[e2];exact mN h0
 have ab:=C7 G4 hf.G3 hL;rw[<-hsg]at ab;have own:=fe eG (since g0 g2) NZ (by rw[hsg];exact dh _ _ _);obtain⟨A',hA,TF⟩:=jT (Q:=λj (m:cL)=>∀ h1:j < (aS.set i eG).length,eM (since g0 g2) (aS.set i eG)[j] m) A.length (λj hj=>by
  by_cases e:j=i
  ·subst e;obtain⟨m2,r2⟩:=hm.UC ab;exact⟨m2,λ_=>by simpa using r2⟩
  ·obtain⟨m2,r2⟩:=(u.row.each j (by rw[u.row.len];exact hj) hj).Dt.UC (a.trans ab);exact⟨m2,λ_=>by rw[List.getElem_set_ne (λe'=>e e'.symm)];exact r2⟩)
 exact⟨⟨A',own.TA (by rw[List.length_set,u.row.len,hA]) (by have:=u.num;omega) λj h1 h2=>TF j A'[j] (by simp[h2]) h1⟩,E6 (a.trans ab) u.cls⟩
theorem MZ (x:Int):cY (IntKind.i64.wrap x):=by
 unfold cY;simp[IntKind.wrap,IntKind.bits,IntKind.signed];omega
theorem PM {G:Heap} {b:Nat} {pre x post:List Value} {t:TypeId} {i:Nat} {z y:Int} (hb:G b=some (.cells (pre++x++post).toArray t (0,0))) (hx:x[i]? = some (.int .i64 z)) (hy:cY y):xN G (G.set b (.cells (pre++x.set i (.int .i64 y)++post).toArray t (0,0))):=by
 have h1:=xO (cs:=pre++x++post) (off:=pre.length+i) hb (HH hx) hy;have e:(pre++x++post).set (pre.length+i) (.int .i64 y)=pre++x.set i (.int .i64 y)++post:=by
  rw[List.append_assoc,List.set_append,if_neg (by omega),Nat.add_sub_cancel_left,List.set_append,if_pos (List.getElem?_eq_some_iff.1 hx).1,List.append_assoc]
 rw[e]at h1;exact h1
theorem pH.M0 {g g':Heap} {bm:Nat} {rec:List Value} {m:cL} (hm:pH g bm rec m) (a:xN g g'):∃ m',pH g' bm rec m':=by
 obtain⟨m',h,_⟩:=PB a hm.read;exact⟨m',h,hm.at_⟩
theorem JD {G:Heap} {bm bs off n cc:Nat} {x1 x2 x3 x4:Int} {a c k:Value} {m:cL} (hr:eM G [.int .i64 x1,.int .i64 x2,a,.int .i64 x3,.int .i64 x4,c,.slice (some ⟨bs,off,none⟩) n cc,k] m) (hb:bs≠bm):pH G bm [.int .i64 x1,.int .i64 x2,a,.int .i64 x3,.int .i64 x4,c,.slice (some ⟨bs,off,none⟩) n cc,k] m:=by
 refine⟨hr,λy1 y2 a' y3 y4 c' p n' cc' k' e=>.inr ?_⟩;simp only[List.cons.injEq,Z_,and_true]at e;exact⟨bs,off,e.2.2.2.2.2.2.1.1.symm,hb⟩
theorem jG {x1 x2 x3 x4:Int} {p1 p2 p3 p4:Option Addr} {n1 n2 n3 n4 c1 c2 c3 c4:Nat} (i1:cY x1) (i2:cY x2) (i3:cY x3) (i4:cY x4):E5 [.int .i64 x1,.int .i64 x2,.slice p1 n1 c1,.int .i64 x3,.int .i64 x4,.slice p2 n2 c2,.slice p3 n3 c3,.slice p4 n4 c4] :=
 ⟨_,_,_,_,_,_,_,_,rfl,i1,i2,i3,i4,(λx h=>nomatch h),(λx h=>nomatch h),(λx h=>nomatch h),(λx h=>nomatch h)⟩
section
variable {g0 g g1:Heap} {cp:Option Addr} {cc:Nat} {cs:List eD} {bm cm:Nat} {aS:List (List Value)} {A:List cL} {k bb:Nat} {vb:Value} {q0 q:Int} {K:Heap->Prop}
theorem qQ.qJ {i off:Nat} {eG:List Value} {m':cL} (u:qQ g0 g cp cc cs bm cm aS A k) (a:x6 (since g0 g) (since g0 g1) bm) (gL:g1 bm=g bm) (hi:i < A.length) (hm:pH (since g0 g1) bm eG m') (hL:E5 eG) (r:bC g1 bb vb q) (r0:bC g0 bb vb q0) (hq:q0<=q) (NY:g0.le g1) (ho:off=0+i*8)
  (hK:∀ g2 A' l',g0.le g2->bC g2 bb vb q->Row 8 eM (since g0 g2) (.slice (some ⟨bm,0,none⟩) A.length cm) A'->fP (since g0 g2) (.slice cp cs.length cc) l'->(∀ x,x≠bm->g2 x=g1 x)->K (dz g2 bb vb q)):St (dz g1 bb vb q) bm off eG K:=by
 obtain⟨hr,pre,post,tt,uC,hpp,l8,l8',fin⟩:=u.end a gL hi hm hL;have PL:bb≠bm:=λe=>by have:=r.free;rw[e,uC]at this;cases this
 have Il:=Heap.aP (o:=Obj.cells (pre++eG++post).toArray tt (0,0)) NY u.fresh.1;obtain⟨⟨A',hA⟩,l',hl⟩:=fin _ rfl;exact jS r.free uC (by simp only[U_];omega) (zV (by omega) (by rw[l8,l8'])) (hK _ A' l' Il (r0.to Il (by simp[Heap.set,PL,r.free]) hq) hA hl λx hx=>by simp[Heap.set,hx])
theorem qQ.stI {b off i:Nat} {pre x post:List Value} {t:TypeId} {y z:Int} (h0:g0.le g) (r:bC g bb vb q) (r0:bC g0 bb vb q0) (hq:q0<=q) (hb:since g0 g b=some (.cells (pre++x++post).toArray t (0,0))) (cH:b≠bm) (ho:off=pre.length+i) (hx:x[i]? = some (.int .i64 z)) (hy:cY y)
  (hK:∀ g1,g0.le g1->bC g1 bb vb q->xN (since g0 g) (since g0 g1)->g1 bm=g bm->K (dz g1 bb vb q)):St (dz g bb vb q) b off [.int .i64 y] K:=by
 obtain⟨gz,bA⟩:=eF hb;have PL:bb≠b:=λe=>by have:=r.free;rw[e,bA]at this;cases this
 have hi:=(List.getElem?_eq_some_iff.1 hx).1;have Il:=Heap.aP (o:=Obj.cells (pre++x.set i (.int .i64 y)++post).toArray t (0,0)) h0 gz;refine jS r.free bA (by simp only[U_,List.length_cons,List.length_nil];omega) (jZ ho hi) (hK _ Il (r0.to Il (by simp[Heap.set,PL,r.free]) hq) ?_ (by simp[Heap.set,λe=>cH (Eq.symm e)];intro e;exact absurd e.symm cH));rw[mN gz];exact PM hb hx hy
theorem qQ.stS {b off:Nat} {pre post:List Value} {t:TypeId} {tv ML:Bool} {p1 p2:Option Addr} {n1 n2 c1 c2:Nat} {v1 v2:Value} {l1 l2:List Int} (h0:g0.le g) (r:bC g bb vb q) (r0:bC g0 bb vb q0) (hq:q0<=q) (hb:since g0 g b=some (.cells (pre++[Value.bool tv,.slice p1 n1 c1,.slice p2 n2 c2]++post).toArray t (0,0))) (cH:b≠bm) (ho:off=pre.length) (h1:dy (since g0 g) v1 l1) (h2:dy (since g0 g) v2 l2)
  (hK:∀ g1,g0.le g1->bC g1 bb vb q->xN (since g0 g) (since g0 g1)->g1 bm=g bm->K (dz g1 bb vb q)):St (dz g bb vb q) b off [.bool ML,v1,v2] K:=by
 obtain⟨gz,bA⟩:=eF hb;have PL:bb≠b:=λe=>by have:=r.free;rw[e,bA]at this;cases this
 have Il:=Heap.aP (o:=Obj.cells (pre++[Value.bool ML,v1,v2]++post).toArray t (0,0)) h0 gz;refine jS r.free bA (by simp only[U_,List.length_cons,List.length_nil];omega) (zV ho rfl) (hK _ Il (r0.to Il (by simp[Heap.set,PL,r.free]) hq) ?_ (by simp[Heap.set,λe=>cH (Eq.symm e)];intro e;exact absurd e.symm cH));rw[mN gz];exact EY hb h1 h2
end
theorem Im {g:Heap} {bb:Nat} {vb:Value} {q:Int} {bytes sz:Nat} {zero:List Value} {el:TypeId} {p:Option Addr} {n cap m:Nat} {vs iB:List Value} {K:Value->Heap->Prop} (r:bC g bb vb q) (hc:cap < n+m) (gL:(n+m)*bytes<=2 ^ 44) (fO:n+m<=2 ^ 44) (ho:(p=none/\n=0/\iB=[])\/∃ b off,p=some ⟨b,off,none⟩/\fj g b off (n*sz)=some iB)
  (hk:∀ b c g',g b=none->b≠bb->g.le g'->bC g' bb vb q->n+m<=c->g' b=some (.cells (iB++vs++(List.replicate (c-(n+m)) zero).flatten).toArray el (0,0))->K (.slice (some ⟨b,0,none⟩) (n+m) c) (dz g' bb vb q)):App bytes sz zero el (dz g bb vb q) p n cap m vs K:=by
 rw[pM];unfold BP;refine⟨λh=>by omega,λ_=>⟨gL,fO,iB,?_,λb c hb N0=>?_⟩⟩
 ·rcases ho with ⟨rfl,h1,h2⟩|⟨b,off,rfl,h1⟩
  ·exact⟨h1,h2⟩
  ·exact bK (aY r.free) h1
 ·have cH:b≠bb:=by
   rintro rfl;obtain⟨o,ho⟩:=sn g b vb q;rw[ho]at hb;cases hb
  rw[iQ cH]at hb;have hl:g.le (g.set b (.cells (iB++vs++(List.replicate (c-(n+m)) zero).flatten).toArray el)):=Heap.aP (z_ g) hb;rw[CZ cH];exact hk b c _ hb cH hl (r.to hl (by simp[Heap.set,λe=>cH (Eq.symm e),r.free];intro e;exact absurd e.symm cH) (Int.le_refl _)) N0 (dh _ _ _)
open Go.Vc Go.Proofs.Tryz
set_option maxRecDepth 100000
set_option maxHeartbeats 4000000
theorem PN {G:Heap} {pk:Option Addr} {nk ck:Nat} {l:List nK} (hr:Row 4 DV G (.slice pk nk ck) l) (hk:(Value.slice pk nk ck=.slice none 0 0/\l=[])\/∃ bk,Value.slice pk nk ck=.slice (some ⟨bk,0,none⟩) 1 1/\l.length=1) :
  ck < nk+1/\nk<=1/\∃ iB,((pk=none/\nk=0/\iB=[])\/∃ b off,pk=some ⟨b,off,none⟩/\fj G b off (nk*4)=some iB) /\
   ∀(h:Heap) (b c:Nat) (rest:List Value) (t:TypeId) (z:nK),h b=some (.cells (iB++xZ z++rest).toArray t (0,0))->nk+1<=c->rest.length=(c-(nk+1))*4->cY z.lo/\cY z.hi/\cY z.to/\cY z.cls->∃ l',Row 4 DV h (.slice (some ⟨b,0,none⟩) (nk+1) c) l':=by
 rcases hk with ⟨e,rfl⟩|⟨bk,e,hl⟩
 ·simp only[Z_]at e;obtain⟨rfl,rfl,rfl⟩:=e;refine⟨by omega,by omega,[],.inl ⟨rfl,rfl,rfl⟩,λh b c rest t z hb hc NO hz=>⟨[z],?_⟩⟩;have ho:cr 4 h (.slice (some ⟨b,0,none⟩) (0+1) c) ([z].map xZ) [b]:=⟨λy hy=>by obtain⟨w,_,rfl⟩:=List.mem_map.1 hy;rfl,.inr ⟨b,c,rest,t,by simp,by simpa using hc,by simpa using hb,by simp[xZ];omega,rfl⟩⟩
  exact ho.C4 (by simp) λy hy=>⟨rfl,by rw[V_.1 hy];exact hz⟩
 ·simp only[Z_]at e;obtain⟨rfl,rfl,rfl⟩:=e;obtain⟨w,rfl⟩:∃ w,l=[w]:=by
   match l,hl with
   | [w],_=>exact⟨w,rfl⟩
  obtain⟨b0,off,vs,e1,e2,e3⟩:=hr.get (i:=0) (by simp);simp only[v_,Addr.mk.injEq,and_true]at e1;obtain⟨rfl,rfl⟩:=e1;obtain⟨rfl,w1⟩:=e3;refine⟨by omega,by omega,xZ w,.inr ⟨bk,0,rfl,by simpa [xZ]using e2⟩,λh b c rest t z hb hc NO hz=>⟨[w,z],?_⟩⟩;have ho:cr 4 h (.slice (some ⟨b,0,none⟩) (1+1) c) ([w,z].map xZ) [b]:=⟨λy hy=>by obtain⟨w,_,rfl⟩:=List.mem_map.1 hy;rfl,.inr ⟨b,c,rest,t,by simp,by simpa using hc,by simpa using hb,by simp[xZ];omega,rfl⟩⟩
  refine ho.C4 (by simp) λy hy=>⟨rfl,?_⟩
  simp only[List.mem_cons,List.not_mem_nil,or_false]at hy;rcases hy with rfl|rfl
  ·exact w1
  ·exact hz
theorem PO {sz:Nat} {b off c:Nat} {K:Option Addr->Prop} (hk:∀ eJ,(1 < c->eJ=off+sz)->K (some ⟨b,eJ,none⟩)) (hc:0 < c) (hs:0 < sz):Sub (some ⟨b,off,none⟩) c 1 sz K:=by
 refine sub λoa h1 h2=>?_;by_cases e:c=1
 ·rw[h2 e];exact hk _ (λh=>by omega)
 ·rw[h1 e];have:(Option.map (λa=>Addr.add a (1*sz)) (some ⟨b,off,none⟩):Option Addr)=some ⟨b,off+sz,none⟩:=by
   simp only[Option.map_some,Addr.add];rw[if_neg (by omega),Nat.one_mul]
  rw[this];exact hk _ (λ_=>rfl)
theorem JE {α:Type} {sz:Nat} {R:Heap->List Value->α->Prop} {h:Heap} {b off eJ n c:Nat} {l:List α} (hr:Row sz R h (.slice (some ⟨b,off,none⟩) n c) l) (h1:1 < c->eJ=off+sz):Row sz R h (.slice (some ⟨b,eJ,none⟩) (n-1) (c-1)) (l.drop 1):=by
 obtain⟨h0,p',c',e,h2,h3⟩:=hr;simp only[Z_]at e;obtain⟨rfl,rfl,rfl⟩:=e;refine⟨by simp;omega,some ⟨b,eJ,none⟩,c-1,by simp,by simp;omega,?_⟩;by_cases e:l.length<=1
 ·exact .inl (List.drop_eq_nil_of_le e)
 ·rcases h3 with rfl|⟨b',o',e',hx⟩
  ·simp at e
  ·simp only[v_,Addr.mk.injEq,and_true]at e';obtain⟨rfl,rfl⟩:=e';refine .inr ⟨b,eJ,rfl,λi x hi=>?_⟩;obtain⟨vs,a1,a2⟩:=hx (i+1) x (by rw[List.getElem?_drop]at hi;rw[Nat.add_comm];exact hi);refine⟨vs,?_,a2⟩;rw[h1 (by omega)];rw[Nat.succ_mul]at a1;rw[show off+sz+i*sz=off+(i*sz+sz)by omega];exact a1
theorem JF {g0 g:Heap} {bb bm:Nat} {vb:Value} {q0 q:Int} {el:TypeId} {p:Option Addr} {n cap m:Nat} {l:List Int} {vs:List Value} {y:Int} {K:Value->Heap->Prop} (h0:g0.le g) (r:bC g bb vb q) (r0:bC g0 bb vb q0) (hq:q0<=q) (hz:tA (bh (since g0 g) bm) (.slice p n cap) l) (hl:l.length<=100) (jB:vs=[.int .i64 y]) (hm:m=1) (hy:cY y) (iR:∃ o,g bm=some o)
  (hk:∀ g1 p' c' l',g0.le g1->bC g1 bb vb q->xN (since g0 g) (since g0 g1)->g1 bm=g bm->dy (since g0 g1) (.slice p' (n+1) c') l'->K (.slice p' (n+1) c') (dz g1 bb vb q)):App 8 1 [.int .i64 0] el (dz g bb vb q) p n cap m vs K:=by
 subst jB hm;obtain⟨ob,ud⟩:=iR;have QO:n=l.length:=by
  obtain⟨_,_,e⟩:=hz.form;simp only[Z_]at e;exact e.2.1
 have bV:∀ x∈l,cY x:=by
  obtain⟨B,hz⟩:=hz;rcases hz with ⟨_,rfl,_⟩|⟨c,r,t,_,_,hi,_⟩
  ·simp
  ·exact λx hx=>hi x (by simp[hx])
 have aax:∀ x∈l++[y],cY x:=λx hx=>by
  simp only[u_,V_]at hx;rcases hx with hx|rfl
  ·exact bV x hx
  ·exact hy
 by_cases hc:cap < n+1
 ·have hold:(p=none/\n=0/\l.map (Value.int .i64)=[])\/∃ b off,p=some ⟨b,off,none⟩/\fj g b off (n*1)=some (l.map (Value.int .i64)):=by
   obtain⟨B,hz⟩:=hz;rcases hz with ⟨e,rfl,_⟩|⟨c,r,t,e,hb,_,_⟩
   ·simp only[Z_]at e;exact .inl ⟨e.1,e.2.1,rfl⟩
   ·simp only[Z_]at e;refine .inr ⟨c,0,e.1,bK (aM g0 g) (bK (iq _ bm) ?_)⟩;rw[bO hb (n*1) 0 (by simp;omega),List.map_append,List.drop_zero,List.take_left' (by simp[QO])]
  refine Im r hc (by omega) (by omega) hold (λb c g' hb cH hle r' N0 hg=>?_);have hs:since g0 g' b=some (.cells ((l++[y]).map (Value.int .i64)++(List.replicate (c-(n+1)) [Value.int .i64 0]).flatten).toArray el (0,0)):=by
   rw[fE (br h0 hb),hg];simp
  have hi:=nE hs (by simp;omega) (c:=c) (by simp;omega) aax;have en:(l++[y]).length=n+1:=by simp[QO]
  rw[en]at hi;exact hk g' _ c (l++[y]) (y_ h0 hle) r' (xN.of_le (cF g0 hle)) (by rw[ud];exact hle _ _ ud) hi
 ·obtain⟨B,hz⟩:=hz;rcases hz with ⟨e,rfl,_⟩|⟨c,w,t,e,hb,hi,_⟩
  ·simp only[Z_]at e;omega
  ·simp only[Z_]at e;obtain⟨rfl,_,rfl⟩:=e;have I9:c≠bm:=by
    rintro rfl;simp[bh]at hb
   have fO:since g0 g c=some (.cells ((l++w).map (Value.int .i64)).toArray t (0,0)):=by
    unfold bh at hb;rw[if_neg I9]at hb;exact hb
   obtain⟨gz,s7⟩:=eF fO;have cH:c≠bb:=by rintro rfl;rw[r.free]at s7;cases s7
   obtain⟨z,w',rfl⟩:∃ z w',w=z::w':=by
    cases w with
    | nil=>simp at hc;omega
    | cons z w'=>exact⟨z,w',rfl⟩
   have ew:eS ((l++z::w').map (Value.int .i64)) (0+n*1) [Value.int .i64 y]=((l++[y])++w').map (Value.int .i64):=by
    have:=iK [Value.int .i64 y] (l.map (Value.int .i64)) ((z::w').map (Value.int .i64)) (by simp);rw[List.map_append,show 0+n*1=(l.map (Value.int .i64)).length by simp[QO],this];simp
   have es:((l++[y])++w').map (Value.int .i64)=((l++z::w').map (Value.int .i64)).set l.length (.int .i64 y):=by
    simp[List.set_append]
   rw[pM];unfold BP;refine⟨λ_=>⟨rfl,?_⟩,λh=>by omega⟩;refine⟨_,t,by rw[iQ cH];exact s7,by simp;omega,?_⟩;have tn:=Heap.aP (o:=Obj.cells (((l++[y])++w').map (Value.int .i64)).toArray t (0,0)) h0 gz;have hs:since g0 (g.set c (.cells (((l++[y])++w').map (Value.int .i64)).toArray t (0,0)))=(since g0 g).set c (.cells (((l++[y])++w').map (Value.int .i64)).toArray t (0,0)):=mN gz;have fW:=nE (h:=since g0 (g.set c (.cells (((l++[y])++w').map (Value.int .i64)).toArray t (0,0)))) (b:=c) (c:=(l++z::w').length) (l:=l++[y]) (rest:=w'.map (Value.int .i64)) (t:=t) (fz:=(0,0)) (by rw[hs,dh,List.map_append]) (by simp;omega) (by simp) aax;have en:(l++[y]).length=n+1:=by simp[QO]
   rw[en]at fW;simp only[List.toList_toArray];rw[ew,CZ cH];refine hk _ _ _ (l++[y]) tn (r0.to tn (by simp[Heap.set,λe=>cH (Eq.symm e),r.free];intro e;exact absurd e.symm cH) hq) ?_ (by simp[Heap.set,λe=>I9 (Eq.symm e)];intro e;exact absurd e.symm I9) fW;rw[hs,es];exact xO (x:=z) (cs:=(l++z::w').map (Value.int .i64)) fO (by simp) hy
theorem M1 {α:Type} (k:Nat) (z:List α):(List.replicate k z).flatten.length=k*z.length:=by
 induction k with
 | zero=>simp
 | succ k ih=>rw[List.replicate_succ,List.flatten_cons,U_,ih,Nat.succ_mul];omega
theorem PR {G:Heap} {bm:Nat} {x1 x2 x3 x4:Int} {a a' c s k:Value} {m:cL} {l:List Int} (hm:pH G bm [.int .i64 x1,.int .i64 x2,a,.int .i64 x3,.int .i64 x4,c,s,k] m) (hi:dy G a' l):pH G bm [.int .i64 x1,.int .i64 x2,a',.int .i64 x3,.int .i64 x4,c,s,k] {m with args:=l}:=by
 refine⟨?_,λy1 y2 b y3 y4 c' p n cc k' e=>hm.at_ y1 y2 a y3 y4 c' p n cc k' ?_⟩
 ·obtain⟨a0,c0,s0,k0,e,i1,i2,i3,i4,w1,w2,w3,w4⟩:=hm.read;simp only[List.cons.injEq,and_true]at e;obtain⟨e1,e2,rfl,e3,e4,rfl,rfl,rfl⟩:=e;exact⟨a',_,_,_,by rw[e1,e2,e3,e4],i1,i2,i3,i4,hi,w2,w3,w4⟩
 ·simp only[List.cons.injEq,and_true]at e ⊢;exact⟨e.1,e.2.1,trivial,e.2.2.2⟩
theorem pH.le {g g':Heap} {bm:Nat} {rec:List Value} {m:cL} (hl:g.le g') (hm:pH g bm rec m):pH g' bm rec m:=⟨hm.read.le hl,hm.at_⟩
theorem BG {g0 g:Heap} {bb:Nat} {vb:Value} {q0 p:Int} {cp:Option Addr} {cc:Nat} {cs:List eD} {bm cm:Nat} {aS:List (List Value)} {A:List cL} (r0:bC g0 bb vb q0) (r:bC g bb vb p) (hq:q0<=p) (hp:p<=50000000) (h0:g0.le g) (nz:PD (since g0 g)) (u:qQ g0 g cp cc cs bm cm aS A A.length) :
  DrW prog 52 [.pointer (some ⟨bb,0,none⟩),.agg #[.slice cp cs.length cc,.slice (some ⟨bm,0,none⟩) A.length cm]] g0 g bb vb p 1000 λg' v=>∃ us u',v=.agg ⟨us⟩/\dG g' us u':=by
 have Tq:=u.num;have NS:=u.ok.1;have zi:=u.ok.2.1;have nH:∃ o,g bm=some o:=u.fresh.2;refine bZ au func52 G52 Z7 rfl ?_;conv=>whnf
 refine bF r (by omega) (λk k0 k1 k2 r1=>?_);have C8:k.toNat < A.length:=by omega
 have f:=u.row.at C8;obtain⟨NT,e3,hf,_⟩:=f;have md:=u.mid k.toNat NT C8;have FN:decide (k.toNat < A.length)=true:=by simp[C8]
 rw[FN]at md;have hw:=md.wh rfl;obtain⟨⟨R6,TL⟩,hsh,NR,a,bc,kc,bs,ks,kv,e,⟨Uz,N3⟩,pV⟩:=hw;have MV:=md.head;clear md;have hB:=hf.Dt;have hex:=hf.ex;rw[e]at hex hB e3;clear e hf FN;generalize A[k.toNat]=m at R6 TL hsh NR pV MV hB hex e3;obtain⟨a',c',s',k',e',i1,i2,i3,i4,⟨az,an⟩,rc,rs,rk,_⟩:=hex;simp only[List.cons.injEq,and_true,true_and]at e';obtain⟨rfl,rfl,rfl,rfl⟩:=e';have f:=az.form;obtain⟨ap,ac,rfl⟩:=f;have hkf:∃ p n c,kv=Value.slice p n c:=by
  rcases pV with ⟨rfl,_⟩|⟨bk,rfl,_⟩
  ·exact⟨_,_,_,rfl⟩
  ·exact⟨_,_,_,rfl⟩
 obtain⟨pk,nk,ck,rfl⟩:=hkf;have CI:=PN rk pV;have UB:m.aQ.length<=ks:=by
  obtain⟨_,_,e3,h4,_⟩:=rs.len;simp only[Z_]at e3;omega
 have tQ:=MV.2.2.2.2.1;have Ai:0<=m.locals:=by have:=MV.2.2.2.2.2;omega
 have Ds:fj (dz g bb vb (p+1)) bm (0+k.toNat*8) 8=some _:=bK (aY r1.free) (bK (aM _ _) e3);conv=>whnf
 refine aq ?_;conv=>whnf
 refine ptr ?_;conv=>whnf
 refine dJ Ds ?_;conv=>whnf
 refine bF r1 (by omega) (λat_ a0 a1 a2 r2=>?_);have nR:at_.toNat < m.code.length:=by omega
 have PS:at_.toNat < m.aQ.length:=by omega
 have f:=pG rc nz (by omega) nR;obtain⟨b1,o1,vs1,adl,vY,t1,xK,IA,gL,G4,M3,ur,Fl⟩:=f;simp only[v_,Addr.mk.injEq,and_true]at xK;obtain⟨rfl,rfl⟩:=xK;obtain⟨rfl,j1,j2,j3⟩:=Fl;have f:=pG rs nz (by omega) PS;obtain⟨b2,o2,KS,adm,HS,t2,CM,hf2,fO,y5,PU,NU,Cd⟩:=f;simp only[v_,Addr.mk.injEq,and_true]at CM;obtain⟨rfl,rfl⟩:=CM;obtain⟨sv1,sv2,rfl,M4,TM⟩:=Cd;have f:=M4.len;obtain⟨_,_,rfl,_,_⟩:=f;have f:=TM.len;obtain⟨_,_,rfl,_,_⟩:=f;have UD:dy (since g0 g) (.slice ap m.args.length ac) m.args:=(az.ints (by omega)).le (iq _ _);have UE:xN (since g0 g) (since g0 g):=xN.of_le (z_ _);conv=>whnf
 refine bF r2 (by omega) (λx x0 x1 x2 r3=>?_);conv=>whnf
 apply ax<;>intro c0;all_goals conv=>whnf
 ·have ja:rd (dz g bb vb (p+1+1+1)) bc (0+at_.toNat*3+1)=some (.int .i64 m.code[at_.toNat].a):=aX (aY r3.free) (aX (aM _ _) (aE ur (i:=1) rfl));have jb:rd (dz g bb vb (p+1+1+1+1)) bc (0+at_.toNat*3+1)=some (.int .i64 m.code[at_.toNat].a):=aX (aY r3.free) (aX (aM _ _) (aE ur (i:=1) rfl));repeat' ((first|exact trivial|apply T_|refine ld ja ?_|refine ld jb ?_|refine bF r3 (by omega) (λy y0 y1 y2 r5=>?_)|refine aq ?_|refine ptr ?_|refine qZ ?_)<;>conv=>whnf)
  all_goals
   refine qQ.stI h0 (bC.on r3 (by omega)) r0 (by omega) G4 Uz (i:=1) (by rw[M3]) rfl (MZ _) (λg4 l4 r4 ak M5=>?_);conv=>whnf
   refine(hB.M0 ak).elim λm2 zj=>?_;refine aq ?_;conv=>whnf
   refine ptr ?_;conv=>whnf
   refine u.qJ (ak.Dt bm) M5 C8 zj (jG i1 i2 i3 i4) r4 r0 (by omega) l4 rfl (λg9 A9 l9 xe r9 zW vp J2=>?_);conv=>whnf
   exact⟨_,_,rfl,xe,r9.free,by omega,by omega,_,⟨l9,A9⟩,rfl,_,_,rfl,vp.le (aM _ _) (λ_ _ hx=>hx.le (aM _ _)),zW.le (aM _ _) (λ_ _ hx=>hx.le (aM _ _))⟩
 apply ax<;>intro c1;all_goals conv=>whnf
 ·refine bF r3 (by omega) (λy y0 y1 y2 r5=>?_);conv=>whnf
  refine ah ?_;conv=>whnf
  refine aq ?_;conv=>whnf
  refine ptr ?_;conv=>whnf
  refine qQ.stI h0 (bC.on r3 (by omega)) r0 (by omega) G4 Uz (i:=2) (by rw[M3]) rfl (by unfold cY;omega) (λg4 l4 r4 ak M5=>?_);conv=>whnf
  refine(hB.M0 ak).elim λm2 zj=>?_;refine aq ?_;conv=>whnf
  refine ptr ?_;conv=>whnf
  refine u.qJ (ak.Dt bm) M5 C8 zj (jG i1 i2 i3 i4) r4 r0 (by omega) l4 rfl (λg9 A9 l9 xe r9 zW vp J2=>?_);conv=>whnf
  exact⟨_,_,rfl,xe,r9.free,by omega,by omega,_,⟨l9,A9⟩,rfl,_,_,rfl,vp.le (aM _ _) (λ_ _ hx=>hx.le (aM _ _)),zW.le (aM _ _) (λ_ _ hx=>hx.le (aM _ _))⟩
 apply ax<;>intro c2;all_goals conv=>whnf
 ·refine bF r3 (by omega) (λy y0 y1 y2 r5=>?_);conv=>whnf
  refine aq ?_;conv=>whnf
  refine ptr ?_;conv=>whnf
  refine qQ.stI h0 (bC.on r3 (by omega)) r0 (by omega) G4 Uz (i:=0) (by rw[M3]) rfl (by unfold cY;omega) (λg4 l4 r4 ak M5=>?_);conv=>whnf
  refine(hB.M0 ak).elim λm2 zj=>?_;refine aq ?_;conv=>whnf
  refine ptr ?_;conv=>whnf
  refine u.qJ (ak.Dt bm) M5 C8 zj (jG i1 i2 i3 i4) r4 r0 (by omega) l4 rfl (λg9 A9 l9 xe r9 zW vp J2=>?_);conv=>whnf
  exact⟨_,_,rfl,xe,r9.free,by omega,by omega,_,⟨l9,A9⟩,rfl,_,_,rfl,vp.le (aM _ _) (λ_ _ hx=>hx.le (aM _ _)),zW.le (aM _ _) (λ_ _ hx=>hx.le (aM _ _))⟩
 apply ax<;>intro c3;all_goals conv=>whnf
 ·refine gY r3 (zP cs.length m.locals r3 (by omega) h0 (by omega) (by omega)) (λv g4 q4 l4 r4 MM MN hA=>?_);refine hA.elim λtv hA=>hA.elim λp5 hA=>hA.elim λn5 hA=>hA.elim λc5 hA=>hA.elim λp6 hA=>hA.elim λn6 hA=>hA.elim λc6 hA=>hA.elim λl5 hA=>hA.elim λl6 hA=>?_;have hv:=hA.1;subst hv;have h04:=y_ h0 l4;have lm:=cF g0 l4;conv=>whnf
  refine aq ?_;conv=>whnf
  refine ptr ?_;conv=>whnf
  refine qQ.stS (bm:=bm) h04 r4 r0 (by omega) (lm _ _ y5) N3 (by rw[PU]) hA.2.1 hA.2.2 (λg6 l6 r6 ak MW=>?_);conv=>whnf
  refine(hB.M0 (xN.trans (xN.of_le lm) ak)).elim λm2 zj=>?_;refine aq ?_;conv=>whnf
  refine ptr ?_;conv=>whnf
  refine(u.aJ l4).qJ (ak.Dt bm) MW C8 zj (jG i1 i2 i3 i4) r6 r0 (by omega) l6 rfl (λg9 A9 l9 xe r9 zW vp J2=>?_);conv=>whnf
  exact⟨_,_,rfl,xe,r9.free,by omega,by omega,_,⟨l9,A9⟩,rfl,_,_,rfl,vp.le (aM _ _) (λ_ _ hx=>hx.le (aM _ _)),zW.le (aM _ _) (λ_ _ hx=>hx.le (aM _ _))⟩
 apply ax<;>intro c4;all_goals conv=>whnf
 ·refine aq ?_;conv=>whnf
  refine PO (λeJ ho=>?_) (by omega) (by decide);conv=>whnf
  have zj:pH (since g0 g) bm _ {m with aQ:=m.aQ.drop 1}:=JD ⟨_,_,_,_,rfl,i1,i2,i3,i4,UD,rc,JE rs ho,rk⟩ N3;refine aq ?_;conv=>whnf
  refine ptr ?_;conv=>whnf
  refine u.qJ (UE.Dt bm) rfl C8 zj (jG i1 i2 i3 i4) r3 r0 (by omega) h0 rfl (λg9 A9 l9 xe r9 zW vp J2=>?_);conv=>whnf
  exact⟨_,_,rfl,xe,r9.free,by omega,by omega,_,⟨l9,A9⟩,rfl,_,_,rfl,vp.le (aM _ _) (λ_ _ hx=>hx.le (aM _ _)),zW.le (aM _ _) (λ_ _ hx=>hx.le (aM _ _))⟩
 apply ax<;>intro c5;all_goals conv=>whnf
 ·refine bF r3 (by omega) (λy y0 y1 y2 r5=>?_);conv=>whnf
  have hy:cY y:=by unfold cY;omega
  have zj:pH (since g0 g) bm _ {m with locals:=y}:=JD ⟨_,_,_,_,rfl,i1,i2,i3,hy,UD,rc,rs,rk⟩ N3;refine aq ?_;conv=>whnf
  refine ptr ?_;conv=>whnf
  refine u.qJ (UE.Dt bm) rfl C8 zj (jG i1 i2 i3 hy) r5 r0 (by omega) h0 rfl (λg9 A9 l9 xe r9 zW vp J2=>?_);conv=>whnf
  exact⟨_,_,rfl,xe,r9.free,by omega,by omega,_,⟨l9,A9⟩,rfl,_,_,rfl,vp.le (aM _ _) (λ_ _ hx=>hx.le (aM _ _)),zW.le (aM _ _) (λ_ _ hx=>hx.le (aM _ _))⟩
 apply ax<;>intro c6;all_goals conv=>whnf
 ·refine gY r3 (sS cs.length r3 (by omega) (by omega)) (λv g4 q4 l4 r4 MM MN hA=>?_);obtain⟨rfl,y,rfl,y0,y1⟩:=hA;conv=>whnf
  have hy:cY y:=by unfold cY;omega
  have zj:pH (since g0 g4) bm _ {m with out:=y}:=JD ⟨_,_,_,_,rfl,i1,i2,hy,i4,UD,rc,rs,rk⟩ N3;refine aq ?_;conv=>whnf
  refine ptr ?_;conv=>whnf
  refine u.qJ (UE.Dt bm) rfl C8 zj (jG i1 i2 hy i4) r4 r0 (by omega) h0 rfl (λg9 A9 l9 xe r9 zW vp J2=>?_);conv=>whnf
  exact⟨_,_,rfl,xe,r9.free,by omega,by omega,_,⟨l9,A9⟩,rfl,_,_,rfl,vp.le (aM _ _) (λ_ _ hx=>hx.le (aM _ _)),zW.le (aM _ _) (λ_ _ hx=>hx.le (aM _ _))⟩
 apply ax<;>intro c7;all_goals conv=>whnf
 ·refine CI.2.2.elim λiB Rh=>?_;have hnk:=CI.2.1;refine bF r3 (by omega) (λy1 y10 y11 y12 r41=>?_);conv=>whnf
  refine bF r41 (by omega) (λy2 y20 y21 y22 r42=>?_);conv=>whnf
  refine bF r42 (by omega) (λy3 y30 y31 y32 r43=>?_);conv=>whnf
  refine bF r43 (by omega) (λy4 y40 y41 y42 r44=>?_);conv=>whnf
  refine Im r44 CI.1 (by show(nk+1)*32<=2 ^ 44;omega) (by omega) (Rh.1.imp id (λ⟨b,off,e,h⟩=>⟨b,off,e,bK (aM g0 g) h⟩)) (λb5 c5 g5 mz adX l5 r5 zi hg5=>?_);have h05:=y_ h0 l5;have ls:=cF g0 l5;have ng:=Rh.2 (since g0 g5) b5 c5 _ _ ⟨y1,y2,y3,y4⟩ (by rw[fE (br h0 mz)];exact hg5) zi (M1 _ _) (by simp only;unfold cY;omega);conv=>whnf
  refine ng.elim λl' ng=>?_;have zj:pH (since g0 g5) bm _ {m with catches:=l' }:=JD ⟨_,_,_,_,rfl,i1,i2,i3,i4,UD.le ls,rc.le ls (λ_ _ hx=>hx),rs.le ls (λ_ _ hx=>hx.le ls),ng⟩ N3;refine aq ?_;conv=>whnf
  refine ptr ?_;conv=>whnf
  refine(u.aJ l5).qJ ((xN.of_le (z_ _)).Dt bm) rfl C8 zj (jG i1 i2 i3 i4) r5 r0 (by omega) h05 rfl (λg9 A9 l9 xe r9 zW vp J2=>?_);conv=>whnf
  exact⟨_,_,rfl,xe,r9.free,by omega,by omega,_,⟨l9,A9⟩,rfl,_,_,rfl,vp.le (aM _ _) (λ_ _ hx=>hx.le (aM _ _)),zW.le (aM _ _) (λ_ _ hx=>hx.le (aM _ _))⟩
 apply ax<;>intro c8;all_goals conv=>whnf
 ·refine bF r3 (by omega) (λy y0 y1 y2 r5=>?_);conv=>whnf
  refine ah ?_;conv=>whnf
  have hy:cY (y-2):=by unfold cY;omega
  have zj:pH (since g0 g) bm _ {m with cls:=y-2}:=JD ⟨_,_,_,_,rfl,hy,i2,i3,i4,UD,rc,rs,rk⟩ N3;refine aq ?_;conv=>whnf
  refine ptr ?_;conv=>whnf
  refine u.qJ (UE.Dt bm) rfl C8 zj (jG hy i2 i3 i4) r5 r0 (by omega) h0 rfl (λg9 A9 l9 xe r9 zW vp J2=>?_);conv=>whnf
  exact⟨_,_,rfl,xe,r9.free,by omega,by omega,_,⟨l9,A9⟩,rfl,_,_,rfl,vp.le (aM _ _) (λ_ _ hx=>hx.le (aM _ _)),zW.le (aM _ _) (λ_ _ hx=>hx.le (aM _ _))⟩
 apply ax<;>intro c9;all_goals conv=>whnf
 ·refine bF r3 (by omega) (λy y0 y1 y2 r5=>?_);conv=>whnf
  have hy:cY y:=by unfold cY;omega
  have zj:pH (since g0 g) bm _ {m with fG:=y}:=JD ⟨_,_,_,_,rfl,i1,hy,i3,i4,UD,rc,rs,rk⟩ N3;refine aq ?_;conv=>whnf
  refine ptr ?_;conv=>whnf
  refine u.qJ (UE.Dt bm) rfl C8 zj (jG i1 hy i3 i4) r5 r0 (by omega) h0 rfl (λg9 A9 l9 xe r9 zW vp J2=>?_);conv=>whnf
  exact⟨_,_,rfl,xe,r9.free,by omega,by omega,_,⟨l9,A9⟩,rfl,_,_,rfl,vp.le (aM _ _) (λ_ _ hx=>hx.le (aM _ _)),zW.le (aM _ _) (λ_ _ hx=>hx.le (aM _ _))⟩
 apply ax<;>intro c10;all_goals conv=>whnf
 ·refine gY r3 (sS cs.length r3 (by omega) (by omega)) (λv g4 q4 l4 r4 MM MN hA=>?_);obtain⟨rfl,y,rfl,y0,y1⟩:=hA;conv=>whnf
  have hy:cY y:=by unfold cY;omega
  refine JF (bm:=bm) h0 r4 r0 (by omega) az an rfl rfl hy nH (λg6 p6 c6 l6' l6 r6 ak MW fW=>?_);conv=>whnf
  refine(hB.M0 ak).elim λm2 adn=>?_;have zj:=PR adn fW;refine aq ?_;conv=>whnf
  refine ptr ?_;conv=>whnf
  refine u.qJ (ak.Dt bm) MW C8 zj (jG i1 i2 i3 i4) r6 r0 (by omega) l6 rfl (λg9 A9 l9 xe r9 zW vp J2=>?_);conv=>whnf
  exact⟨_,_,rfl,xe,r9.free,by omega,by omega,_,⟨l9,A9⟩,rfl,_,_,rfl,vp.le (aM _ _) (λ_ _ hx=>hx.le (aM _ _)),zW.le (aM _ _) (λ_ _ hx=>hx.le (aM _ _))⟩
 ·refine gY r3 (MO r3 (by omega) (z_ _)) (λv g4 q4 l4 r4 MM MN hA=>?_);refine hA.elim λp5 hA=>hA.elim λn5 hA=>hA.elim λc5 hA=>hA.elim λl5 hA=>?_;have hv:=hA.1;subst hv;have h04:=y_ h0 l4;conv=>whnf
  refine aq ?_;conv=>whnf
  refine ptr ?_;conv=>whnf
  refine(u.aJ l4).qJ ((xN.of_le (z_ _)).Dt bm) rfl C8 (hB.le (cF g0 l4)) (jG i1 i2 i3 i4) r4 r0 (by omega) h04 rfl (λg9 A9 l9 xe r9 zW vp J2=>?_);conv=>whnf
  have lg:(since g g4).le g9:=λx o hx=>by
   obtain⟨h1,h2⟩:=eF hx;rw[J2 x (by rintro rfl;obtain⟨o',AS⟩:=nH;rw[AS]at h1;cases h1)];exact h2
  exact⟨_,_,rfl,xe,r9.free,by omega,by omega,_,⟨l5,A9⟩,rfl,_,_,rfl,hA.2.le lg (λ_ _ hx=>hx.le lg),zW.le (aM _ _) (λ_ _ hx=>hx.le (aM _ _))⟩
structure One (G G1:Heap):Prop where
 int:xY G G1
 same:∀ b off v,rd G b off=some v->(∀ x,v≠.int .i64 x)->rd G1 b off=some v
theorem PV {g g':Heap} (a:One g g'):EX g g' 2 Ap:=by
 rintro b off vs x hv ⟨f,rfl,i1,i2⟩;obtain⟨_,_,rfl,_⟩:=i2.len;obtain⟨h1,hv⟩:=dI hv;obtain⟨h2,_⟩:=dI hv;obtain⟨x1,e1,j1⟩:=a.int _ _ _ h1 i1;obtain⟨l',j2,_⟩:=gD a.int i2;exact⟨_,⟨x1,l'⟩,er e1 (mF (a.same _ _ _ h2 (λx h=>nomatch h))),_,rfl,j1,j2⟩
theorem PW {g g':Heap} (a:One g g'):EX g g' 3 mV:=by
 rintro b off vs x hv ⟨l1,l2,rfl,i1,i2⟩;obtain⟨_,_,rfl,_⟩:=i1.len;obtain⟨_,_,rfl,_⟩:=i2.len;obtain⟨h1,hv⟩:=dI hv;obtain⟨h2,hv⟩:=dI hv;obtain⟨h3,_⟩:=dI hv;obtain⟨m1,j1,_⟩:=gD a.int i1;obtain⟨m2,j2,_⟩:=gD a.int i2;exact⟨_,⟨x.told,m1,m2⟩,er (a.same _ _ _ h1 (λx h=>nomatch h)) (er (a.same _ _ _ h2 (λx h=>nomatch h)) (mF (a.same _ _ _ h3 (λx h=>nomatch h)))),_,_,rfl,j1,j2⟩
theorem PX {g g':Heap} (a:One g g'):EX g g' 8 eM:=by
 rintro b off vs m hv hm;obtain⟨p1,c1,p2,c2,p3,c3,p4,c4,rfl,i1,i2,i3,i4,h5,h6,h7,h8,_⟩:=hm.form;obtain⟨v0,hv⟩:=dI hv;obtain⟨v1,hv⟩:=dI hv;obtain⟨v2,hv⟩:=dI hv;obtain⟨v3,hv⟩:=dI hv;obtain⟨v4,hv⟩:=dI hv;obtain⟨v5,hv⟩:=dI hv;obtain⟨v6,hv⟩:=dI hv;obtain⟨v7,_⟩:=dI hv;obtain⟨x0,e0,j0⟩:=a.int _ _ _ v0 i1;obtain⟨x1,e1,j1⟩:=a.int _ _ _ v1 i2;obtain⟨x3,e3,j3⟩:=a.int _ _ _ v3 i3;obtain⟨x4,e4,j4⟩:=a.int _ _ _ v4 i4;have e2:=a.same _ _ _ v2 (λx h=>nomatch h);have e5:=a.same _ _ _ v5 (λx h=>nomatch h);have e6:=a.same _ _ _ v6 (λx h=>nomatch h);have e7:=a.same _ _ _ v7 (λx h=>nomatch h);obtain⟨l5,r5,_⟩:=gD a.int h5;obtain⟨l6,r6,_⟩:=jg (yl a.int) h6;obtain⟨l7,r7,_⟩:=jg (PW a) h7;obtain⟨l8,r8,_⟩:=jg (ym a.int) h8;exact⟨_,⟨x0,x1,l5,x3,x4,l6,l7,l8⟩,er e0 (er e1 (er e2 (er e3 (er e4 (er e5 (er e6 (mF e7))))))),_,_,_,_,rfl,j0,j1,j3,j4,r5,r6,r7,r8⟩
theorem Io {g g':Heap} (a:One g g') {us:List Value} {u:aO} (hu:dG g us u):∃ u',dG g' us u':=by
 obtain⟨c,m,rfl,h1,h2⟩:=hu;obtain⟨l1,r1,_⟩:=jg (PV a) h1;obtain⟨l2,r2,_⟩:=jg (PX a) h2;exact⟨⟨l1,l2⟩,c,m,rfl,r1,r2⟩
theorem PY {G:Heap} {b:Nat} {pre x y post:List Value} {t:TypeId} (hb:G b=some (.cells (pre++x++post).toArray t (0,0))) (hl:y.length=x.length) (hx:∀ v∈x,∃ z,v=.int .i64 z) (hy:∀ v∈y,∃ z,v=.int .i64 z/\cY z):One G (G.set b (.cells (pre++y++post).toArray t (0,0))):=by
 have key:∀ c off,(c=b/\∃ j,j < x.length/\off=pre.length+j)\/rd (G.set b (.cells (pre++y++post).toArray t (0,0))) c off=rd G c off:=by
  intro c off;by_cases e:c=b
  ·subst e;by_cases h1:off < pre.length
   ·right
    rw[mU];simp only[rd,hb,List.getElem?_toArray];rw[List.append_assoc,List.append_assoc,List.getElem?_append_left h1,List.getElem?_append_left h1]
   ·by_cases h2:off < pre.length+x.length
    ·exact .inl ⟨rfl,off-pre.length,by omega,by omega⟩
    ·right
     rw[mU];simp only[rd,hb,List.getElem?_toArray];rw[List.getElem?_append_right (by simp;omega),List.getElem?_append_right (by simp;omega)];simp[hl]
  ·exact .inr (nO e)
 have ko:(G.set b (.cells (pre++y++post).toArray t (0,0))) b=some (.cells (pre++y++post).toArray t (0,0)):=dh _ _ _;refine⟨λc off z hz hi=>?_,λc off v hv hn=>?_⟩
 ·rcases key c off with ⟨rfl,j,hj,rfl⟩|e
  ·obtain⟨w,e1,e2⟩:=hy y[j] (x_ (by omega));exact⟨w,bE ko (i:=j) rfl (by rw[<-e1];exact w_ (by omega)),e2⟩
  ·exact⟨z,by rw[e];exact hz,hi⟩
 ·rcases key c off with ⟨rfl,j,hj,rfl⟩|e
  ·have h1:=bE hb (i:=j) rfl (w_ hj);rw[hv]at h1;obtain⟨w,e1⟩:=hx x[j] (x_ hj);exact absurd ((Option.some.inj h1).trans e1) (hn w)
  ·rw[e];exact hv
theorem M6 {P:Program} {f:FuncId} {args:List Value} {gs g:Heap} {R:Value->Heap->Prop} (hl:gs.le g) (hc:bI P f args gs R) :
  bI P f args g λv h'=>∃ hs,R v hs/\(∀ x,gs x=none->g x≠none->h' x=g x)/\(∀ x,gs x≠none\/g x=none->h' x=hs x)/\∀ x,gs x=none->g x≠none->hs x=none:=by
 intro w hv;refine(hc w (λb o hx=>hv b o (hl b o hx))).mono ?_;rintro e w' ⟨hs,m,hm⟩;have Hw:∀ x,gs x=none->g x≠none->hs x=none:=λx h1 h2=>by
  cases hx:hs x with
  | none=>rfl
  | some o =>
   rcases m.x9 x (by rw[hx];simp)with h3|h3
   ·exact absurd h1 h3
   ·cases hg:g x with
    | none=>exact absurd hg h2
    | some y=>have:=eV (hv x y hg);omega
 let h':Heap:=λx=>match gs x,g x with
  | none,some o=>some o
  | _,_=>hs x
 have e1:∀ x o,gs x=none->g x=some o->h' x=some o:=λx o h1 h2=>by simp[h',h1,h2]
 have e2:∀ x,gs x≠none\/g x=none->h' x=hs x:=λx h=>by
  cases h1:gs x with
  | none =>
   cases h2:g x with
   | none=>simp[h',h1,h2]
   | some o =>
    rcases h with h|h
    ·exact absurd h1 h
    ·rw[h2]at h;cases h
  | some y=>simp[h',h1]
 have mv:dn g w h' w':=by
  refine⟨λx y hx=>?_,λx hx hn=>?_,λx hx=>?_,m.size,m.fz,m.out⟩
  ·cases h1:gs x with
   | none =>
    cases h2:g x with
    | none=>rw[e2 x (.inr h2)]at hx;exact m.view x y hx
    | some o =>
     rw[e1 x o h1 h2]at hx;rw[m.aJ x (eV (hv x o h2)) h1,<-hx];exact hv x o h2
   | some z=>rw[e2 x (.inl (by rw[h1];simp))]at hx;exact m.view x y hx
  ·refine m.aJ x hx ?_;cases h1:gs x with
   | none=>rfl
   | some o=>rw[hl x o h1]at hn;cases hn
  ·by_cases h2:g x=none
   ·rw[e2 x (.inr h2)]at hx;rcases m.x9 x hx with h3|h3
    ·left
     cases h1:gs x with
     | none=>exact absurd h1 h3
     | some o=>rw[hl x o h1];simp
    ·exact .inr h3
   ·exact .inl h2
 refine⟨h',mv,?_⟩;cases e with
 | returned v =>
  refine⟨hs,hm,λx h1 h2=>?_,e2,Hw⟩;cases h3:g x with
  | none=>exact absurd h3 h2
  | some o=>exact e1 x o h1 h3
 | panicked c=>exact hm.elim
 | outgrown=>exact hm.elim
theorem Ri {P:Program} {f:FuncId} {args:List Value} {g:Heap} {bb:Nat} {vb:Value} {p k:Int} {A:Heap->Value->Prop} {K:Value->Heap->Prop} {E:List PanicEntry->Heap->Prop} (r:bC g bb vb p) (hc:Dr P f args g bb vb p k A)
  (hk:∀ v g' q,g.le g'->bC g' bb vb q->p<=q->q<=p+k->PD (since g g')->A g' v->K v (dz g' bb vb q)):Go.Vc.Call P f args (dz g bb vb p) K E :=
 aC (bI.fz hc) λv h' hh=>by
  obtain⟨⟨g',q,rfl,hl,hb,h1,h2,hA⟩,hz⟩:=hh;refine hk v g' q hl (r.to hl hb h1) h1 h2 (λb cs t z hx=>?_) hA;obtain⟨h3,h4⟩:=eF hx;have e:b≠bb:=by rintro rfl;rw[hb]at h4;cases h4
  rcases hz b cs t z (by rw[iQ e];exact h4)with h5|h5
  ·exact h5
  ·rw[iQ e,h3]at h5;cases h5
theorem qQ.UC {g0 g g1:Heap} {cp:Option Addr} {cc:Nat} {cs:List eD} {bm cm:Nat} {aS:List (List Value)} {A:List cL} {k:Nat} (u:qQ g0 g cp cc cs bm cm aS A k) (a:x6 (since g0 g) (since g0 g1) bm) (gL:g1 bm=g bm):∃ u',dG (since g0 g1) [.slice cp cs.length cc,.slice (some ⟨bm,0,none⟩) A.length cm] u':=by
 obtain⟨A',hA,TF⟩:=jT (Q:=λj (m:cL)=>∀ h1:j < aS.length,eM (since g0 g1) aS[j] m) A.length (λj hj=>by
  obtain⟨m2,r2⟩:=(u.row.each j (by rw[u.row.len];exact hj) hj).Dt.UC a;exact⟨m2,λ_=>r2⟩)
 obtain⟨l',hl⟩:=E6 a u.cls;have own:=u.row.own.aJ (h':=since g0 g1) (λb hb o ho=>by rw[V_.1 hb]at ho ⊢;unfold since at ho ⊢;rw[gL];exact ho);exact⟨⟨l',A'⟩,_,_,rfl,hl,own.TA (by rw[u.row.len,hA]) (by show A'.length<=_;have:=u.num;omega) λj h1 h2=>TF j A'[j] (by simp[h2]) h1⟩
def Rj (g:Heap) (v:Value):Prop:=∃ us u,v=.agg ⟨us⟩/\dG g us u
theorem Rj.elim {g:Heap} {v:Value} {K:Prop} (h:Rj g v) (hk:∀ p n c q m d u,v=.agg #[.slice p n c,.slice q m d]->dG g [.slice p n c,.slice q m d] u->K):K:=by
 obtain⟨us,u,rfl,h⟩:=h;obtain⟨cp,cc,q,d,rfl,_⟩:=h.form;exact hk _ _ _ _ _ _ _ rfl h
theorem JG {g:Heap} {bb:Nat} {vb:Value} {p:Int} (r:bC g bb vb p) (hp:p<=20000000) (hB:TG g) :
  Dr prog 49 [.pointer (some ⟨bb,0,none⟩)] g bb vb p 11000 Rj:=by
 refine bZ au func49 F49 abu rfl ?_;conv=>whnf
 refine Ri r (BF r (by omega) (z_ g) hB) (λv g1 q1 l1 r1 q10 q11 nz hA=>?_);refine hA.elim λcp hA=>hA.elim λcc hA=>hA.elim λcs hA=>hA.elim λbm hA=>hA.elim λcm hA=>hA.elim λaS hA=>hA.elim λA hA=>?_;have hv:=hA.1;subst hv;have u1:=hA.2.1;conv=>whnf
 refine bF r1 (by omega) (λx x0 x1 x2 r2=>?_);conv=>whnf
 apply ax<;>intro c0;all_goals conv=>whnf
 ·refine Rg r (by omega) (BG r r2 (by omega) (by omega) l1 nz u1) (λv g3 q3 l3 r3 q30 q31 hA=>?_);refine Rj.elim hA λp2 n2 c2 q2 m2 d2 u' hv hA2=>?_;subst hv;conv=>whnf
  exact⟨_,_,rfl,l3,r3.free,by omega,by omega,_,_,rfl,hA2⟩
 ·exact⟨_,_,rfl,l1,r2.free,by omega,by omega,_,_,rfl,u1.JC.le (aM _ _)⟩
theorem qQ.stO {g0 g:Heap} {bb:Nat} {vb:Value} {q0 q:Int} {K:Heap->Prop} {b off:Nat} {pre x post y:List Value} {t:TypeId} (h0:g0.le g) (r:bC g bb vb q) (r0:bC g0 bb vb q0) (hq:q0<=q) (hb:since g0 g b=some (.cells (pre++x++post).toArray t (0,0))) (ho:off=pre.length) (hl:y.length=x.length) (hx:∀ v∈x,∃ z,v=.int .i64 z) (hy:∀ v∈y,∃ z,v=.int .i64 z/\cY z)
  (hK:∀ g1,g0.le g1->bC g1 bb vb q->One (since g0 g) (since g0 g1)->K (dz g1 bb vb q)):St (dz g bb vb q) b off y K:=by
 obtain⟨gz,bA⟩:=eF hb;have PL:bb≠b:=λe=>by have:=r.free;rw[e,bA]at this;cases this
 have Il:=Heap.aP (o:=Obj.cells (pre++y++post).toArray t (0,0)) h0 gz;refine jS r.free bA (by simp only[U_];omega) (zV ho hl) (hK _ Il (r0.to Il (by simp[Heap.set,PL,r.free]) hq) ?_);rw[mN gz];exact PY hb hl hx hy
theorem Rk {P:Program} {f:FuncId} {args:List Value} {g:Heap} {bb:Nat} {vb:Value} {p:Int} {x:Value} {K:Value->Heap->Prop} {E:List PanicEntry->Heap->Prop} (r:bC g bb vb p) (hc:Pure P f args g x) (hk:K x (dz g bb vb p)):Go.Vc.iF P f args (dz g bb vb p) K E :=
 Ib (R:=λv g'=>v=x/\g'=g) r (bI.mono hc λv h' hh=>⟨by rw[hh.2];exact z_ _,hh⟩) λv g' _ _ hh=>by
  rw[hh.1,hh.2];exact hk
theorem G5 {g0 g:Heap} {b off n c:Nat} {l:List Int} (hr:dy (since g0 g) (.slice (some ⟨b,off,none⟩) n c) l) (nz:PD (since g0 g)) {i:Nat} (hi:i < l.length):∃ pre w post t,since g0 g b=some (.cells (pre++[Value.int .i64 w]++post).toArray t (0,0))/\pre.length=off+i*1:=by
 obtain⟨b4,o4,vs4,aay,Rm,t4,hp4,hf4,CE,ado,adp,hr4,hi4⟩:=pG hr nz (by omega) hi;simp only[v_,Addr.mk.injEq,and_true]at hp4;obtain⟨rfl,rfl⟩:=hp4;obtain⟨rfl,j4⟩:=hi4;exact⟨aay,_,Rm,t4,ado,adp⟩
theorem PZ {P:Program} {f:FuncId} {args:List Value} {h:Heap} {p:Prop} (hc:Pure P f args h (tf p)) (hp:p):Pure P f args h (.bool true):=by rw[fk hp]at hc;exact hc
theorem P0 {P:Program} {f:FuncId} {args:List Value} {h:Heap} {p:Prop} (hc:Pure P f args h (tf p)) (hp:¬p):Pure P f args h (.bool false):=by rw[dD hp]at hc;exact hc
theorem aaz {x y z:Int}:∀ v∈[Value.int .i64 x,.int .i64 y,.int .i64 z],∃ w,v=.int .i64 w:=λv hv=>by
 simp only[List.mem_cons,List.not_mem_nil,or_false]at hv;rcases hv with rfl|rfl|rfl<;>exact⟨_,rfl⟩
theorem TN {x y z:Int} (h1:cY x) (h2:cY y) (h3:cY z):∀ v∈[Value.int .i64 x,.int .i64 y,.int .i64 z],∃ w,v=.int .i64 w/\cY w:=λv hv=>by
 simp only[List.mem_cons,List.not_mem_nil,or_false]at hv;rcases hv with rfl|rfl|rfl
 ·exact⟨_,rfl,h1⟩
 ·exact⟨_,rfl,h2⟩
 ·exact⟨_,rfl,h3⟩
theorem G6 {g:Heap} {bb:Nat} {vb:Value} {p:Int} (r:bC g bb vb p) (hp:p<=20000000) (hB:TG g) :
  Dr prog 26 [.pointer (some ⟨bb,0,none⟩)] g bb vb p 11000 Rj:=by
 refine bZ au func26 G26 Z5 rfl ?_;conv=>whnf
 refine Ri r (BF r (by omega) (z_ g) hB) (λv g1 q1 l1 r1 q10 q11 nz hA=>?_);refine hA.elim λcp hA=>hA.elim λcc hA=>hA.elim λcs hA=>hA.elim λbm hA=>hA.elim λcm hA=>hA.elim λaS hA=>hA.elim λA hA=>?_;have hv:=hA.1;subst hv;have u:=hA.2.1;clear hA;have Tq:=u.num;have NS:=u.ok.1;have zi:=u.ok.2.1;conv=>whnf
 refine bF r1 (by omega) (λk k0 k1 k2 r2=>?_);have C8:k.toNat < A.length:=by omega
 have f:=u.row.at C8;obtain⟨NT,e3,hf,_⟩:=f;have md:=u.mid k.toNat NT C8;have FN:decide (k.toNat < A.length)=true:=by simp[C8]
 rw[FN]at md;have hw:=md.wh rfl;obtain⟨⟨R6,TL⟩,hsh,NR,a,bc,kc,bs,ks,kv,e,⟨Uz,N3⟩,pV⟩:=hw;have MV:=md.head;clear md;have hex:=hf.ex;have hmr:=hf.toR;rw[e]at hex e3 hmr;clear e hf FN;generalize A[k.toNat]=m at R6 TL hsh NR pV MV hex e3 hmr;obtain⟨a',c',s',k',e',i1,i2,i3,i4,⟨az,an⟩,rc,rs,rk,_⟩:=hex;simp only[List.cons.injEq,and_true,true_and]at e';obtain⟨rfl,rfl,rfl,rfl⟩:=e';have f:=az.form;obtain⟨ap,ac,rfl⟩:=f;have hkf:∃ p n c,kv=Value.slice p n c:=by
  rcases pV with ⟨rfl,_⟩|⟨bk,rfl,_⟩
  ·exact⟨_,_,_,rfl⟩
  ·exact⟨_,_,_,rfl⟩
 obtain⟨pk,nk,ck,rfl⟩:=hkf;have tQ:=MV.2.2.2.2.1;have Ai:0<=m.locals:=by have:=MV.2.2.2.2.2;omega
 have sg:=aM g g1;have Ds:fj g1 bm (0+k.toNat*8) 8=some _:=bK sg e3;have zX:=aE Ds (i:=6) rfl;have Ay:=aE Ds (i:=4) rfl;have zY:=aE Ds (i:=5) rfl;conv=>whnf
 refine aq ?_;conv=>whnf
 refine ptr ?_;conv=>whnf
 refine ld (aX (aY r2.free) zY) ?_;conv=>whnf
 refine bF r2 (by omega) (λat_ a0 a1 a2 r3=>?_);have nR:at_.toNat < m.code.length:=by omega
 have PS:at_.toNat < m.aQ.length:=by omega
 have f:=pG rc nz (by omega) nR;obtain⟨b1,o1,vs1,adl,vY,t1,xK,IA,gL,G4,M3,ur,Fl⟩:=f;simp only[v_,Addr.mk.injEq,and_true]at xK;obtain⟨rfl,rfl⟩:=xK;obtain⟨rfl,j1,j2,j3⟩:=Fl;have f:=pG rs nz (by omega) PS;obtain⟨b2,o2,KS,adm,HS,t2,CM,hf2,fO,y5,PU,NU,Cd⟩:=f;simp only[v_,Addr.mk.injEq,and_true]at CM;obtain⟨rfl,rfl⟩:=CM;obtain⟨sv1,sv2,rfl,M4,TM⟩:=Cd;have f:=M4.len;obtain⟨ps1,cs1,rfl,_,_⟩:=f;have f:=TM.len;obtain⟨_,_,rfl,_,_⟩:=f;have adq:=NR _ (x_ PS);have UE:xN (since g g1) (since g g1):=xN.of_le (z_ _);conv=>whnf
 refine bF r3 (by omega) (λx x0 x1 x2 r4=>?_);conv=>whnf
 apply ax<;>intro c0;all_goals conv=>whnf
 ·refine Rg r (by omega) (BG r r4 (by omega) (by omega) l1 nz u) (λv g3 q3 l3 r3 q30 q31 hA=>?_);refine Rj.elim hA λp2 n2 c2 q2 m2 d2 u' hv hA2=>?_;subst hv;conv=>whnf
  exact⟨_,_,rfl,l3,r3.free,by omega,by omega,_,_,rfl,hA2⟩
 apply ax<;>intro c1;all_goals conv=>whnf
 ·skip
  refine aq ?_;conv=>whnf
  refine ptr ?_;conv=>whnf
  refine ld (aX (aY r4.free) zX) ?_;conv=>whnf
  refine Ib r4 (kM g1) (λv g6 l6 r6 hh=>?_);refine hh.elim λb1 hh=>hh.elim λb2 hv=>?_;subst hv;have lm:=cF g l6;conv=>whnf
  refine aq ?_;conv=>whnf
  refine ptr ?_;conv=>whnf
  refine qQ.stS (bm:=bm) (y_ l1 l6) r6 r (by omega) (lm _ _ y5) N3 (by rw[PU]) (iP _ _ _) (iP _ _ _) (λg7 l7 r7 ak TO=>?_);conv=>whnf
  refine((u.aJ l6).UC (ak.Dt bm) TO).elim λu9 TP=>?_;exact⟨_,_,rfl,l7,r7.free,by omega,by omega,_,u9,rfl,TP.le (aM _ _)⟩
 apply ax<;>intro c2;all_goals conv=>whnf
 ·skip
  repeat' ((first|apply T_|refine aq ?_|refine ptr ?_|refine ld (aX (aY r6.free) (aX l6 zX)) ?_|refine ld (aX (aY r6.free) (aX l6 Ay)) ?_|refine ld (aX (aY r6.free) (aX l6 zY)) ?_|refine ld (aX (aY r4.free) zX) ?_|refine ld (aX (aY r4.free) Ay) ?_|refine ld (aX (aY r4.free) zY) ?_|refine dJ (bK (aY r4.free) Ds) ?_|refine dJ (bK (aY r6.free) (bK l6 Ds)) ?_|(refine gY r4 (zP cs.length m.locals r4 (by omega) l1 (by omega) (by omega)) (λv g6 q6 l6 r6 q60 q61 hA=>?_);refine hA.elim λtv hA=>hA.elim λp5 hA=>hA.elim λn5 hA=>hA.elim λc5 hA=>hA.elim λp6 hA=>hA.elim λn6 hA=>hA.elim λc6 hA=>hA.elim λl5 hA=>hA.elim λl6' hA=>?_;have hv:=hA.1;subst hv;have lm:=cF g l6)|exact trivial)<;>conv=>whnf)
  all_goals
   refine qQ.stS (bm:=bm) (y_ l1 l6) r6 r (by omega) (lm _ _ y5) N3 (by rw[PU]) hA.2.1 hA.2.2 (λg7 l7 r7 ak TO=>?_);conv=>whnf
   refine((u.aJ l6).UC (ak.Dt bm) TO).elim λu9 TP=>?_;exact⟨_,_,rfl,l7,r7.free,by omega,by omega,_,u9,rfl,TP.le (aM _ _)⟩
 apply ax<;>intro c3;all_goals conv=>whnf
 ·have QA:=aE (bK sg NU) (i:=0) rfl;have kL:=aE (bK sg NU) (i:=1) rfl;cases ht:m.aQ[at_.toNat].told
  ·rw[ht]at QA;repeat' ((first|apply T_|refine aq ?_|refine ptr ?_|refine ld (aX (aY r6.free) (aX l6 zX)) ?_|refine ld (aX (aY r6.free) (aX l6 Ay)) ?_|refine ld (aX (aY r6.free) (aX l6 zY)) ?_|refine ld (aX (aY r4.free) zX) ?_|refine ld (aX (aY r4.free) Ay) ?_|refine ld (aX (aY r4.free) zY) ?_|refine dJ (bK (aY r4.free) Ds) ?_|refine dJ (bK (aY r6.free) (bK l6 Ds)) ?_|refine ld (aX (aY r4.free) QA) ?_|exact trivial)<;>conv=>whnf)
   exact⟨_,_,rfl,l1,r4.free,by omega,by omega,_,_,rfl,u.JC.le (aM _ _)⟩
  ·rw[ht]at QA;have hln:=adq ht;repeat' ((first|apply T_|refine aq ?_|refine ptr ?_|refine ld (aX (aY r6.free) (aX l6 zX)) ?_|refine ld (aX (aY r6.free) (aX l6 Ay)) ?_|refine ld (aX (aY r6.free) (aX l6 zY)) ?_|refine ld (aX (aY r4.free) zX) ?_|refine ld (aX (aY r4.free) Ay) ?_|refine ld (aX (aY r4.free) zY) ?_|refine dJ (bK (aY r4.free) Ds) ?_|refine dJ (bK (aY r6.free) (bK l6 Ds)) ?_|refine ld (aX (aY r4.free) QA) ?_|exact trivial)<;>conv=>whnf)
   apply ax<;>intro c5;all_goals conv=>whnf
   ·have f:=M4.get (i:=0) (by omega);obtain⟨b3,o3,_,rfl,_,_⟩:=f;repeat' ((first|apply T_|refine aq ?_|refine ptr ?_|refine ld (aX (aY r6.free) (aX l6 zX)) ?_|refine ld (aX (aY r6.free) (aX l6 Ay)) ?_|refine ld (aX (aY r6.free) (aX l6 zY)) ?_|refine ld (aX (aY r4.free) zX) ?_|refine ld (aX (aY r4.free) Ay) ?_|refine ld (aX (aY r4.free) zY) ?_|refine dJ (bK (aY r4.free) Ds) ?_|refine dJ (bK (aY r6.free) (bK l6 Ds)) ?_|refine ld (aX (aY r4.free) kL) ?_|refine bF r4 (by omega) (λy y0 y1 y2 r5=>?_)|(refine gY r5 (sS cs.length r5 (by omega) (by omega)) (λv g6 q6 l6 r6 q60 q61 hA=>?_);obtain⟨rfl,z,rfl,z0,z1⟩:=hA)|exact trivial)<;>conv=>whnf)
    all_goals
     refine(G5 M4 nz (i:=y.toNat) (by omega)).elim λaay h4=>h4.elim λw4 h4=>h4.elim λRm h4=>h4.elim λt4 h4=>?_;refine qQ.stO l1 r6 r (by omega) h4.1 (by rw[h4.2,Nat.mul_one]) rfl (λv hv=>⟨w4,V_.1 hv⟩) (λv hv=>⟨z,V_.1 hv,by unfold cY;omega⟩) (λg7 l7 r7 one=>?_);conv=>whnf
     refine(Io one u.JC).elim λu9 TP=>?_;exact⟨_,_,rfl,l7,r7.free,by omega,by omega,_,u9,rfl,TP.le (aM _ _)⟩
   ·exact⟨_,_,rfl,l1,r4.free,by omega,by omega,_,_,rfl,u.JC.le (aM _ _)⟩
 apply ax<;>intro c4;all_goals conv=>whnf
 ·skip
  repeat' ((first|apply T_|refine aq ?_|refine ptr ?_|refine ld (aX (aY r6.free) (aX l6 zX)) ?_|refine ld (aX (aY r6.free) (aX l6 Ay)) ?_|refine ld (aX (aY r6.free) (aX l6 zY)) ?_|refine ld (aX (aY r4.free) zX) ?_|refine ld (aX (aY r4.free) Ay) ?_|refine ld (aX (aY r4.free) zY) ?_|refine dJ (bK (aY r4.free) Ds) ?_|refine dJ (bK (aY r6.free) (bK l6 Ds)) ?_|(refine gY r4 (ES _ _ ⟨cs,A⟩ m r4 (by omega) (u.JC.le sg) (hmr.le sg) u.ok tQ (by show A.length<=100;omega)) (λv g6 q6 l6 r6 q60 q61 hA=>?_);refine hA.elim λkk hA=>hA.elim λka hA=>hA.elim λkb hA=>?_;have hv:=hA.1;subst hv)|(by_cases hI:eU ⟨cs,A⟩ m ⟨kk,ka,kb⟩<;>first|refine Rk r6 (PZ (yc _ _ ⟨cs,A⟩ m ⟨kk,ka,kb⟩ g6 ((u.JC.le sg).le l6) ((hmr.le sg).le l6) u.ok (by simp only;unfold cY;omega) Ai) hI) ?_|refine Rk r6 (P0 (yc _ _ ⟨cs,A⟩ m ⟨kk,ka,kb⟩ g6 ((u.JC.le sg).le l6) ((hmr.le sg).le l6) u.ok (by simp only;unfold cY;omega) Ai) hI) ?_)|exact trivial)<;>conv=>whnf)
  all_goals first
   | exact⟨_,_,rfl,y_ l1 l6,r6.free,by omega,by omega,_,_,rfl,(u.JC.le (aM _ _)).le l6⟩
   | (
    refine qQ.stO (y_ l1 l6) r6 r (by omega) (cF g l6 _ _ G4) (by rw[M3]) rfl aaz (TN (by unfold cY;omega) (by unfold cY;omega) (by unfold cY;omega)) (λg7 l7 r7 one=>?_);conv=>whnf
    refine(Io one (u.aJ l6).JC).elim λu9 TP=>?_;exact⟨_,_,rfl,l7,r7.free,by omega,by omega,_,u9,rfl,TP.le (aM _ _)⟩)
 ·exact⟨_,_,rfl,l1,r4.free,by omega,by omega,_,_,rfl,u.JC.le (aM _ _)⟩
theorem M7 (v:Value) (n:Nat) (h:Heap) (hB:Bytes h v n) (hn:n<=1000000000000000) :
  bI prog 23 [v] h λr h'=>∃ bb vb,r=.pointer (some ⟨bb,0,none⟩)/\h'=dz h bb vb 0/\bC h bb vb 0:=by
 obtain⟨p,c,rfl,hc,hB⟩:=hB;refine bZ au func23 F23 aa6 rfl ?_;conv=>whnf
 apply ax<;>intro h1;all_goals conv=>whnf
 ·refine aq ?_;conv=>whnf
  refine new λbb hb=>?_;conv=>whnf
  exact⟨bb,_,rfl,rfl,hb,⟨2000,⟨p,c,rfl,by omega,.inr (by
   rcases hB with hB|⟨b,off,rfl,hB⟩
   ·omega
   ·exact⟨b,off,rfl,λi hi=>hB i (by omega)⟩)⟩,by omega⟩,by omega⟩
 ·refine new λbb hb=>?_;conv=>whnf
  exact⟨bb,_,rfl,rfl,hb,⟨n,⟨p,c,rfl,hc,hB⟩,by omega⟩,by omega⟩
theorem zZ {g:Heap} {bb:Nat} {vb:Value} {p:Int} (r:bC g bb vb p) (hp:p<=90000000) :
  Dr prog 28 [.pointer (some ⟨bb,0,none⟩)] g bb vb p 1 λg' v=>g'=g/\∃ x:Int,v=.int .i64 x/\0<=x/\x<=200:=by
 refine bZ au func28 F28 aa9 rfl ?_;conv=>whnf
 refine bF r (by omega) (λx x0 x1 x2 r2=>?_);have hx:x=0\/x=1\/x=2\/x=3\/x=4\/x=5\/x=6\/x=7\/x=8:=by omega
 rcases hx with rfl|rfl|rfl|rfl|rfl|rfl|rfl|rfl|rfl;all_goals
  conv=>whnf
  refine aq ?_;conv=>whnf
  exact⟨_,_,rfl,z_ g,r2.free,by omega,by omega,rfl,_,rfl,by omega,by omega⟩
abbrev BH (n:Nat):Prop:=n<=1048576
theorem cr.row {sz:Nat} {α:Type} {f:α->List Value} {Q:Heap->List Value->α->Prop} {h:Heap} {v:Value} {l:List α} {B:List Nat} (ho:cr sz h v (l.map f) B) (hl:l.length<=140737488351232) (hq:∀ a∈l,Q h (f a) a):Row sz Q h v l:=by
 obtain⟨hx,ho⟩:=ho;rcases ho with ⟨rfl,hn,_⟩|⟨b,c,rest,t,rfl,gF,hb,hlen,_⟩
 ·have:l=[]:=by simpa using hn
  subst this;exact⟨by simp,none,0,rfl,by simp,.inl rfl⟩
 ·refine⟨hl,_,c,by simp,by simpa using gF,.inr ⟨b,0,rfl,λi x hi=>?_⟩⟩;have hm:x∈l:=List.mem_of_getElem? hi;obtain⟨bV,Qy⟩:=List.getElem?_eq_some_iff.1 hi;refine⟨f x,?_,hq x hm⟩;have Dj:l.map f=(l.take i).map f++f x::(l.drop (i+1)).map f:=by
   rw[<-Qy,<-List.map_cons,<-List.map_append,<-List.drop_eq_getElem_cons bV,List.take_append_drop]
  have fV:((l.take i).map f).flatten.length=i*sz:=by
   rw[bW (sz:=sz)]
   ·rw[List.length_map,List.length_take,Nat.min_eq_left (by omega)]
   ·intro y hy;exact hx y (by rw[Dj];exact u_.2 (.inl hy))
  have tI:(f x).length=sz:=hx _ (List.mem_map_of_mem hm);rw[Dj]at hb hlen;have:=bO hb sz (0+i*sz) (by
   simp only[List.flatten_append,List.flatten_cons,U_]at hlen ⊢;omega)
  rw[this];congr 1
  have e:((List.map f (List.take i l)++f x::List.map f (List.drop (i+1) l)).flatten++rest)=(List.map f (List.take i l)).flatten++(f x++((List.map f (List.drop (i+1) l)).flatten++rest)):=by simp
  rw[e,Nat.zero_add,<-fV,List.drop_left,<-tI,List.take_left]
theorem Rows.adr {α:Type} {R:Heap->List Value->α->List Nat->Prop} {h:Heap} {xs:List (List Value)} {l:List α} {B:List Nat} (hr:Rows R h xs l B):∀ i (hi:i < l.length),∃ hj:i < xs.length,∃ C,R h xs[i] l[i] C:=λi hi=>⟨by rw[hr.len];exact hi,hr.mem i hi _⟩
theorem eN.aaA {α:Type} {R:Heap->List Value->α->List Nat->Prop} {Q:Heap->List Value->α->Prop} {sz:Nat} {h:Heap} {v:Value} {l:List α} {B:List Nat} (ho:eN R sz h v l B) (hl:l.length<=1000000\/l.length<=140737488351232) (hq:∀ x a C,a∈l->R h x a C->Q h x a):Row sz Q h v l:=by
 obtain⟨xs,B0,B1,⟨hx,ho⟩,hr,_⟩:=ho;have hlen:=hr.len;rcases ho with ⟨rfl,hn,_⟩|⟨b,c,rest,t,rfl,gF,hb,td,_⟩
 ·subst hn;have:l=[]:=List.eq_nil_of_length_eq_zero (by simpa using hlen.symm);subst this;exact⟨by simp,none,0,rfl,by simp,.inl rfl⟩
 ·refine⟨by omega,_,c,by rw[hlen],by omega,.inr ⟨b,0,rfl,λi x hi=>?_⟩⟩;obtain⟨bV,Qy⟩:=List.getElem?_eq_some_iff.1 hi;obtain⟨hj,C,hR⟩:=hr.adr i bV;have tI:xs[i].length=sz:=hx _ (x_ _);refine⟨xs[i],?_,by subst Qy;exact hq _ _ C (x_ _) hR⟩;have fV:(xs.take i).flatten.length=i*sz:=by
   rw[bW (sz:=sz)]
   ·rw[List.length_take,Nat.min_eq_left (by omega)]
   ·intro y hy;exact hx y (List.mem_of_mem_take hy)
  have Dj:xs.flatten++rest=(xs.take i).flatten++(xs[i]++((xs.drop (i+1)).flatten++rest)):=by
   have e:xs=xs.take i++xs[i]::xs.drop (i+1):=by rw[<-List.drop_eq_getElem_cons hj,List.take_append_drop]
   have e2:=congrArg List.flatten e;rw[e2];simp only[List.flatten_append,List.flatten_cons,List.append_assoc]
  rw[Dj]at hb td;have:=bO hb sz (0+i*sz) (by
   simp only[U_]at td ⊢;omega)
  rw[this,Nat.zero_add,<-fV,List.drop_left,<-tI,List.take_left]
def C9 (_:Heap) (vs:List Value) (x:Int):Prop:=vs=[.int .i64 x]
def G7 (_:Heap) (vs:List Value) (x:Vl):Prop:=vs=[.bool x.ref,.int .i64 x.n]
def x8 (h:Heap) (vs:List Value) (o:Ob):Prop:=∃ v,vs=[.int .i64 o.cls,v]/\Row 2 G7 h v o.aW
def tB (h:Heap) (vs:List Value) (f:bQ):Prop:=∃ v1 v2,vs=[.int .i64 f.U,.int .i64 f.pc,v1,v2]/\Row 2 G7 h v1 f.locals/\Row 2 G7 h v2 f.stack
def xg (h:Heap) (mc:List Value) (M:bM):Prop:=∃ vo vf vs,mc=ay vo vf vs M/\Row 2 x8 h vo M.objs/\Row 4 tB h vf M.ag/\Row 1 C9 h vs M.said
theorem JH {h:Heap} {v:Value} {l:List Int} {B:List Nat} (ho:dR h v l B) (hl:l.length<=140737488351232):Row 1 C9 h v l:=cr.row ho hl λ_ _=>rfl
theorem xh {h:Heap} {v:Value} {l:List Vl} {B:List Nat} (ho:cj h v l B) (hl:l.length<=140737488351232):Row 2 G7 h v l:=cr.row ho hl λ_ _=>rfl
def Ip (o:Ob):Prop:=BH o.aW.length
def Iq (f:bQ):Prop:=BH f.locals.length/\BH f.stack.length
structure Ir (M:bM):Prop where
 objs:BH M.objs.length
 ob:∀ o∈M.objs,Ip o
 ag:BH M.ag.length
 fr:∀ f∈M.ag,Iq f
 said:BH M.said.length
theorem Small.ads {M:bM} (h:Small M):Ir M:=by
 obtain⟨h1,h2,h3,h4,h5⟩:=h;refine⟨by unfold BH;omega,λo ho=>by have:=h4 o ho;unfold Ip BH;omega,by unfold BH;omega,λf hf=>by have:=h5 f hf;unfold Iq BH;omega,by unfold BH;omega⟩
theorem gN.adz {h:Heap} {mc:List Value} {M:bM} {B:List Nat} (ho:gN h mc M B) (hs:Ir M):xg h mc M:=by
 obtain⟨vo,vf,vs,_,_,_,e,h1,h2,h3,_⟩:=ho;refine⟨vo,vf,vs,e,h1.aaA (.inr (by have:=hs.objs;omega)) λx a C ha hR=>?_,h2.aaA (.inr (by have:=hs.ag;omega)) λx a C ha hR=>?_,JH h3 (by have:=hs.said;omega)⟩
 ·obtain⟨v,e,o⟩:=hR;exact⟨v,e,xh o (by have:=hs.ob a ha;unfold Ip at this;omega)⟩
 ·obtain⟨v1,v2,_,_,e,o1,o2,_⟩:=hR;have:=hs.fr a ha;unfold Iq at this;exact⟨v1,v2,e,xh o1 (by omega),xh o2 (by omega)⟩
theorem E7 (v w:Value) (l:List Int) (h:Heap) (hv:Row 1 C9 h v l) (hw:Row 1 C9 h w l):Pure prog 22 [v,w] h (.bool true):=by
 have f:=hv.len;obtain⟨p,c,rfl,hc,hn⟩:=f;have f:=hw.len;obtain⟨q,d,rfl,hd,_⟩:=f;refine iC au func22 F22 aa5 rfl ?_;conv=>whnf
 refine cN ?_;conv=>whnf
 refine fh [0,1,5] [] (λi:Nat=>i<=l.length) (λi=>l.length-i)
  (λi=>([.v (.slice p l.length c),.v (.slice q l.length d),.v (.int .i64 i)],[],h)) 0 (Nat.zero_le _) rfl ?_
 intro i hi;conv=>whnf
 apply ax<;>intro g;all_goals conv=>whnf
 ·have bV:i < l.length:=by omega
  have e:=hv.get bV;obtain⟨b,off,vs,hp,e1,e2⟩:=e;have e:=hw.get bV;obtain⟨b',eJ,ws,hq,d1,d2⟩:=e;have e2':=e2;have d2':=d2;obtain rfl:=e2';obtain rfl:=d2';repeat' ((first|refine aG hp ?_|refine aG hq ?_|refine ld (aE e1 (i:=0) rfl) ?_|refine ld (aE d1 (i:=0) rfl) ?_|refine ah ?_|refine aq ?_)<;>conv=>whnf)
  refine yM rfl ?_;conv=>whnf
  refine ah ?_;conv=>whnf
  exact dm (i+1) (by omega) (by omega) rfl
 ·exact⟨rfl,rfl⟩
theorem JI {P:Program} {t:TypeId} {f0 f1:Field} {k':IntKind} (a:Bool) (c:Int) (h3:P.underlying t=some (.struct #[f0,f1])) (h4:P.stoodInHeld t=false) (qP:f0.name≠ "_") (AX:f1.name≠ "_") (h5:P.underlying f0.type=some .bool) (h6:P.underlying f1.type=some (.int k'))
  (EO:∀ w:World,(part f0.type #[.bool a,.int .i64 c] f0.offset).run P w=.ok (.bool a) w) (xK:∀ w:World,(part f1.type #[.bool a,.int .i64 c] f1.offset).run P w=.ok (.int .i64 c) w) (w:World) :
  (Go.binOp .neq t (.agg #[.bool a,.int .i64 c]) (.agg #[.bool a,.int .i64 c])).run P w=.ok (.bool false) w:=by
 have hf:P.fieldsOf t = #[f0,f1]:=by simp[Program.fieldsOf,h3]
 have e1:(Op.equalIn (9999+1) t (.agg #[.bool a,.int .i64 c]) (.agg #[.bool a,.int .i64 c])).run P w=.ok true w:=by
  rw[run_equalIn_struct w 9999 t _ _ (by rw[hf];exact h3) h4,hf];simp only[Op.eqFields,qP,AX,ne_eq,not_false_eq_true,if_true,Sem.run_bind,EO,xK,Result.andThen_ok];rw[show(9999:Nat)=9998+1 from rfl,run_equalIn_bool' w 9998 f0.type a a h5];simp only[Result.andThen_ok,beq_self_eq_true,Bool.not_true,Bool.false_eq_true,if_false,Sem.run_bind,xK];rw[run_equalIn_int w 9998 f1.type .i64 k' c c h6];simp
 have e3:(Op.equal t (.agg #[.bool a,.int .i64 c]) (.agg #[.bool a,.int .i64 c])).run P w=.ok true w:=e1;rw[show Go.binOp .neq t (.agg #[.bool a,.int .i64 c]) (.agg #[.bool a,.int .i64 c])=(do pure (.bool (!(<-Op.equal t (.agg #[.bool a,.int .i64 c]) (.agg #[.bool a,.int .i64 c])))))from rfl];simp only[Sem.run_bind,e3,Result.andThen_ok,Sem.run_pure];rfl
theorem Da (a:Bool) (c:Int) (w:World):(Go.binOp .neq 31 (.agg #[.bool a,.int .i64 c]) (.agg #[.bool a,.int .i64 c])).run prog w=.ok (.bool false) w:=by
 refine JI a c rfl ?_ ?_ ?_ rfl rfl ?_ ?_ w
 ·kernel_rfl
 ·decide
 ·decide
 ·intro w;rfl
 ·intro w;rfl
theorem Is {P:Program} {dst:Option Nat} {op:BinOp} {t u:TypeId} {x y:Operand} {ty:TypeId} {pos:String} {af:Array Edge} {g:Option (Nat × Bool)} {e:Env} {Kr:Value->Prop} {a b r:Value}
  (hx:e.get x=.v a) (hy:e.get y=.v b) (h1:∀ w:World,(eqGuard op t x y a b).run P w=.ok () w) (h2:∀ w:World,(Go.binOp op t a b).run P w=.ok r w) (hk:Kr r):N6 P ⟨dst,.binOp op t x y u,ty,pos,af,g⟩ e Kr:=by
 refine Oq (v:=r) ?_ ?_ hk
 ·intro z hz;simp only[Op.operands,List.mem_toArray,List.mem_cons,List.not_mem_nil,or_false]at hz;rcases hz with rfl|rfl
  ·exact⟨a,hx⟩
  ·exact⟨b,hy⟩
 ·intro ρ wv w;have e1:=wv x (by simp[Op.operands]);have e2:=wv y (by simp[Op.operands]);rw[hx]at e1;rw[hy]at e2;injection e1 with e1
  injection e2 with e2
  simp only[execOp,<-e1,<-e2];simp only[Sem.run_bind,h1,h2,Result.andThen_ok,Sem.run_pure]
theorem vZ (v w:Value) (l:List Vl) (h:Heap) (hv:Row 2 G7 h v l) (hw:Row 2 G7 h w l):Pure prog 15 [v,w] h (.bool true):=by
 have f:=hv.len;obtain⟨p,c,rfl,hc,hn⟩:=f;have f:=hw.len;obtain⟨q,d,rfl,hd,_⟩:=f;refine iC au func15 F15 aa0 rfl ?_;conv=>whnf
 refine cN ?_;conv=>whnf
 refine fh [0,1,5] [] (λi:Nat=>i<=l.length) (λi=>l.length-i)
  (λi=>([.v (.slice p l.length c),.v (.slice q l.length d),.v (.int .i64 i)],[],h)) 0 (Nat.zero_le _) rfl ?_
 intro i hi;conv=>whnf
 apply ax<;>intro g;all_goals conv=>whnf
 ·have bV:i < l.length:=by omega
  have e:=hv.get bV;obtain⟨b,off,vs,hp,e1,e2⟩:=e;have e:=hw.get bV;obtain⟨b',eJ,ws,hq,d1,d2⟩:=e;have e2':=e2;have d2':=d2;obtain rfl:=e2';obtain rfl:=d2';repeat' ((first|refine aG hp ?_|refine aG hq ?_|refine dJ e1 ?_|refine dJ d1 ?_|refine ah ?_|refine aq ?_)<;>conv=>whnf)
  refine Is rfl rfl (λw=>by simp[eqGuard]) (λw=>Da _ _ w) ?_;conv=>whnf
  refine ah ?_;conv=>whnf
  exact dm (i+1) (by omega) (by omega) rfl
 ·exact⟨rfl,rfl⟩
theorem E8 (v w:Value) (l:List Ob) (h:Heap) (hv:Row 2 x8 h v l) (hw:Row 2 x8 h w l):Pure prog 17 [v,w] h (.bool true):=by
 have f:=hv.len;obtain⟨p,c,rfl,hc,hn⟩:=f;have f:=hw.len;obtain⟨q,d,rfl,hd,_⟩:=f;refine iC au func17 F17 aa2 rfl ?_;conv=>whnf
 refine cN ?_;conv=>whnf
 refine fh [0,1,5] [] (λi:Nat=>i<=l.length) (λi=>l.length-i)
  (λi=>([.v (.slice p l.length c),.v (.slice q l.length d),.v (.int .i64 i)],[],h)) 0 (Nat.zero_le _) rfl ?_
 intro i hi;conv=>whnf
 apply ax<;>intro g;all_goals conv=>whnf
 ·have bV:i < l.length:=by omega
  have e:=hv.get bV;obtain⟨b,off,vs,hp,e1,e2⟩:=e;have e:=hw.get bV;obtain⟨b',eJ,ws,hq,d1,d2⟩:=e;obtain⟨v1,rfl,e3⟩:=e2;obtain⟨w1,rfl,d3⟩:=d2;repeat' ((first|refine aG hp ?_|refine aG hq ?_|refine ld (aE e1 (i:=0) rfl) ?_|refine ld (aE d1 (i:=0) rfl) ?_|refine ld (aE e1 (i:=1) rfl) ?_|refine ld (aE d1 (i:=1) rfl) ?_|refine yM rfl ?_|refine eK (λg=>?_) (λg=>absurd g (by simp))|refine cJ (λg=>absurd g (by simp)) (λg=>?_)|refine aK (vZ _ _ _ h e3 d3) ?_|refine aj (vZ _ _ _ h e3 d3) ?_|refine ah ?_|refine aq ?_|apply T_|exact trivial)<;>conv=>whnf)
  exact dm (i+1) (by omega) (by omega) rfl
 ·exact⟨rfl,rfl⟩
theorem aaB (x y:List Value) (M:bM) (h:Heap) (hv:xg h x M) (hw:xg h y M):Pure prog 13 [.agg ⟨x⟩,.agg ⟨y⟩] h (.bool true):=by
 obtain⟨vo,vf,vs,rfl,v1,v2,v3⟩:=hv;obtain⟨wo,wf,ws,rfl,w1,w2,w3⟩:=hw;have f:=v2.len;obtain⟨p,c,rfl,hc,hn⟩:=f;have f:=w2.len;obtain⟨q,d,rfl,hd,_⟩:=f;unfold ay;refine iC au func13 F13 aaY rfl ?_;conv=>whnf
 repeat' ((first|refine yM rfl ?_|refine cN ?_|refine eK (λg=>?_) (λg=>absurd g (by simp))|refine cJ (λg=>absurd g (by simp)) (λg=>?_)|refine aK (E8 _ _ _ h v1 w1) ?_|refine aj (E8 _ _ _ h v1 w1) ?_|refine aK (E7 _ _ _ h v3 w3) ?_|refine aj (E7 _ _ _ h v3 w3) ?_|refine Is rfl rfl (λw=>by simp[eqGuard]) (λw=>Da _ _ w) ?_|apply T_|exact trivial)<;>conv=>whnf)
 refine iI rfl rfl (λw=>by simp[eqGuard]) (λw=>Da _ _ w) ?_;conv=>whnf
 refine fh [2,3,5] [2,3] (λi:Nat=>i<=M.ag.length) (λi=>M.ag.length-i)
  (λi=>([.l 2 0,.l 3 0,.v (.int .i64 i)],[some (ay vo (.slice p M.ag.length c) vs M),some (ay wo (.slice q M.ag.length d) ws M)],h)) 0 (Nat.zero_le _) rfl ?_
 intro i hi;unfold ay;conv=>whnf
 apply ax<;>intro g;all_goals conv=>whnf
 ·have bV:i < M.ag.length:=by omega
  have e:=v2.get bV;obtain⟨b,off,og,hp,e1,e2⟩:=e;have e:=w2.get bV;obtain⟨b',eJ,ws',hq,d1,d2⟩:=e;obtain⟨x1,x2,rfl,e3,e4⟩:=e2;obtain⟨y1,y2,rfl,d3,d4⟩:=d2;have f:=e3.len;obtain⟨_,_,rfl,_,_⟩:=f;have f:=e4.len;obtain⟨_,_,rfl,_,_⟩:=f;have f:=d3.len;obtain⟨_,_,rfl,_,_⟩:=f;have f:=d4.len;obtain⟨_,_,rfl,_,_⟩:=f;repeat' ((first|refine aG hp ?_|refine aG hq ?_|refine dJ e1 ?_|refine dJ d1 ?_|refine yM rfl ?_|refine eK (λg=>?_) (λg=>absurd g (by simp))|refine cJ (λg=>absurd g (by simp)) (λg=>?_)|refine aj (vZ _ _ _ h e3 d3) ?_|refine aj (vZ _ _ _ h e4 d4) ?_|refine ah ?_|refine aq ?_|apply T_|exact trivial)<;>conv=>whnf)
  exact dm (i+1) (by omega) (by omega) rfl
 ·exact⟨rfl,rfl⟩
theorem Rn {h:Heap} {v:Value} {n:Nat} (hB:Bytes h v n):∃ hs:Heap,hs.le h/\Bytes hs v n/\TG hs:=by
 obtain⟨p,c,rfl,hc,hB⟩:=hB;by_cases h0:n=0
 ·exact⟨λ_=>none,λb o hx=>(nomatch hx),⟨p,c,rfl,hc,.inl h0⟩,λb cs t z hx=>(nomatch hx)⟩
 ·rcases hB with hB|⟨b,off,rfl,hB⟩
  ·exact absurd hB h0
  ·refine⟨λx=>if x=b then h b else none,λx o hx=>?_,⟨_,c,rfl,hc,.inr ⟨b,off,rfl,λi hi=>?_⟩⟩,λx cs t z hx=>?_⟩
   ·by_cases e:x=b
    ·simp only[e,if_true]at hx ⊢;exact hx
    ·simp only[e,if_false]at hx;cases hx
   ·obtain⟨y,h1,h2⟩:=hB i hi;refine⟨y,?_,h2⟩;unfold rd at h1 ⊢;simp only[if_true];exact h1
   ·by_cases e:x=b
    ·simp only[e,if_true]at hx;obtain⟨y,h1,_⟩:=hB 0 (by omega);simp only[rd,hx]at h1;exact⟨off+0,y,h1⟩
    ·simp only[e,if_false]at hx;cases hx
theorem aaC {P:Program} {f:FuncId} {args:List Value} {gs g:Heap} {x:Value} (hl:gs.le g) (hc:Pure P f args gs x):Pure P f args g x:=by
 refine bI.mono (M6 hl hc) λv h' hh=>?_;obtain⟨hs,⟨rfl,rfl⟩,k1,k2,_⟩:=hh;refine⟨rfl,funext λy=>?_⟩;cases e:hs y with
 | some o=>rw[k2 y (.inl (by rw[e];simp)),e,hl y o e]
 | none =>
  cases e2:g y with
  | none=>rw[k2 y (.inr e2),e]
  | some o=>rw[k1 y e (by rw[e2];simp),e2]
theorem eN.spot {α:Type} {R:Heap->List Value->α->List Nat->Prop} (hR:Kept R) {sz:Nat} {h:Heap} {v:Value} {l:List α} {B:List Nat} (ho:eN R sz h v l B) (nd:Nd B) {k:Nat} (hk:k < l.length) :
  ∃ b c pre x post t C,v=.slice (some ⟨b,0,none⟩) l.length c/\l.length<=c/\h b=some (.cells (pre++x++post).toArray t (0,0))/\pre.length=k*sz/\x.length=sz/\R h x l[k] C/\b∈B/\b ∉ C/\(∀ y∈C,y∈B)/\Nd C /\
  ∀ h' x' a' C',x'.length=sz->h' b=some (.cells (pre++x'++post).toArray t (0,0))->R h' x' a' C'->(∀ y∈B,y≠b->y ∉ C->h' y=h y)->∃ B',eN R sz h' v (l.set k a') B':=by
 obtain⟨xs,B0,B1,⟨hx,ho⟩,hr,rfl⟩:=ho;have hlen:=hr.len;rcases ho with ⟨rfl,rfl,_⟩|⟨b,c,rest,t,rfl,gF,hb,td,rfl⟩
 ·simp at hlen;omega
 have el:l=l.take k++l[k]::l.drop (k+1):=by rw[<-List.drop_eq_getElem_cons hk,List.take_append_drop]
 have NU:=hr;rw[el]at NU;obtain⟨ys,zs,A,D,rfl,rfl,r1,r2⟩:=Rows.split NU;have JT:ys.length=k:=by rw[r1.len,List.length_take];omega
 cases r2 with
 | @cons x a C zs l2 D2 q1 q2 =>
 have pI:(ys++x::zs).flatten++rest=ys.flatten++x++(zs.flatten++rest):=by simp
 have tI:x.length=sz:=hx x (by simp);have hyl:ys.flatten.length=k*sz:=by rw[bW (λy hy=>hx y (by simp[hy])),JT]
 have J1:∀ y∈C,y ∉ A/\y ∉ D2/\y≠b:=λy hy=>by
  have:=nd y;have h1:=W_.2 hy;simp only[Y_,X_,List.count_nil]at this;refine⟨λh=>?_,λh=>?_,λh=>?_⟩
  ·have:=W_.2 h;omega
  ·have:=W_.2 h;omega
  ·subst h;simp at this;omega
 have ndb:∀ y,y∈A\/y∈D2->y≠b:=λy hy e=>by
  subst e;have:=nd y;simp only[Y_,X_,List.count_nil]at this;simp at this;rcases hy with hy|hy<;>have:=W_.2 hy<;>omega
 refine⟨b,c,ys.flatten,x,zs.flatten++rest,t,C,by rw[hlen],by omega,by rw[hb,pI],hyl,tI,q1,by simp,λhm=>(J1 b hm).2.2 rfl,λy hy=>by simp[hy],λy=>?_,λh' x' a' C' xB bA hR' DA=>?_⟩
 ·have:=nd y;simp only[Y_]at this;omega
 ·have Ro:∀ E:List Nat,(∀ y∈E,y∈A\/y∈D2)->cR h h' E:=λE hE y hy o ho=>by
   rw[DA y (by rcases hE y hy with h|h<;>simp[h]) (ndb y (hE y hy)) (λhc=>by rcases hE y hy with h|h;exact(J1 y hc).1 h;exact(J1 y hc).2.1 h)];exact ho
  have hl2:(x'::zs).length=(x::zs).length:=by simp
  refine⟨[b]++(A++(C'++D2)),ys++x'::zs,[b],A++(C'++D2),⟨λy hy=>?_,.inr ⟨b,c,rest,t,by simp,by simpa using gF,by rw[bA];simp,?_,rfl⟩⟩,?_,rfl⟩
  ·rcases u_.1 hy with hy|hy
   ·exact hx y (by simp[hy])
   ·rcases List.mem_cons.1 hy with rfl|hy
    ·exact xB
    ·exact hx y (by simp[hy])
  ·rw[<-td];simp[xB,tI]
  ·have e2:l.set k a'=l.take k++a'::l.drop (k+1):=by rw[List.set_eq_take_append_cons_drop,if_pos hk]
   rw[e2];exact(r1.aJ hR (Ro A λy hy=>.inl hy)).app (.cons hR' (q2.aJ hR (Ro D2 λy hy=>.inr hy)))
theorem cr.spot {sz:Nat} {h:Heap} {v:Value} {xs:List (List Value)} {B:List Nat} (ho:cr sz h v xs B) (hk:0 < xs.length) :
  ∃ b c post t,v=.slice (some ⟨b,0,none⟩) xs.length c/\B=[b]/\h b=some (.cells ([]++xs[0]++post).toArray t (0,0))/\xs[0].length=sz /\
  ∀ h' x',x'.length=sz->h' b=some (.cells ([]++x'++post).toArray t (0,0))->cr sz h' v (xs.set 0 x') [b]:=by
 obtain⟨hx,ho⟩:=ho;rcases ho with ⟨rfl,rfl,_⟩|⟨b,c,rest,t,rfl,gF,hb,td,rfl⟩
 ·simp at hk
 ·cases xs with
  | nil=>simp at hk
  | cons x xs =>
   have tI:x.length=sz:=hx x (by simp);refine⟨b,c,xs.flatten++rest,t,rfl,rfl,by rw[hb];simp,tI,λh' x' hl bA=>⟨λy hy=>?_,.inr ⟨b,c,rest,t,by simp,by simpa using gF,by rw[bA];simp,by rw[<-td];simp[hl,tI],rfl⟩⟩⟩;simp only[List.set_cons_zero,List.mem_cons]at hy;rcases hy with rfl|hy
   ·exact hl
   ·exact hx y (by simp[hy])
structure P1 (M:bM):Prop where
 objs:M.objs.length<=100000
 ag:M.ag.length<=100000
 said:M.said.length<=100000
 ob:∀ o∈M.objs,o.aW.length<=100000
 fr:∀ f∈M.ag,f.locals.length<=100000/\f.stack.length<=100000
theorem P1.small {M:bM} (h:P1 M):Small M:=⟨by have:=h.objs;omega,by have:=h.ag;omega,by have:=h.said;omega,λo ho=>by have:=h.ob o ho;omega,λf hf=>by have:=h.fr f hf;omega⟩
theorem oh.sml {u:aO} (hT:cz u) {M:bM} (h:oh u M):M.objs.length<=1000/\M.ag.length<=1000/\M.said.length<=1000/\(∀ o∈M.objs,o.aW.length<=1000)/\∀ f∈M.ag,f.locals.length<=1000/\f.stack.length<=1000:=by
 refine⟨by have:=h.len;omega,by have:=h.nf;omega,by have:=h.kG;omega,λo ho=>?_,λf hf=>?_⟩
 ·rcases(h.objs o ho).2 with ⟨_,h2⟩|⟨_,h2,h3⟩
  ·omega
  ·have:=eH hT.1 h2;omega
 ·have hF:=h.iN f hf;have:=(hT.aV hF.1).1.2.2.2.2.1;have:=hF.2.2.1;have:=hF.2.2.2.1;omega
theorem P1.same {M M':bM} (h:P1 M) (h1:M'.objs=M.objs) (h2:M'.ag=M.ag) (h3:M'.said=M.said):P1 M':=⟨by rw[h1];exact h.objs,by rw[h2];exact h.ag,by rw[h3];exact h.said,by rw[h1];exact h.ob,by rw[h2];exact h.fr⟩
def Lit (M:bM):Prop:=M.objs.length<=1000/\M.ag.length<=1000/\M.said.length<=1000/\(∀ o∈M.objs,o.aW.length<=1000)/\∀ f∈M.ag,(f.locals.length<=1000/\f.stack.length<=1000)/\0<=f.pc/\f.pc<=1000
theorem Lit.A1 {M:bM} (h:Lit M):P1 M:=⟨by have:=h.1;omega,by have:=h.2.1;omega,by have:=h.2.2.1;omega,λo ho=>by have:=h.2.2.2.1 o ho;omega,λf hf=>by have:=h.2.2.2.2 f hf;omega⟩
theorem HZ.small {u:aO} {x:Int} {R:bM} (h:HZ u x R):Lit R:=by
 by_cases hP:Jl u x
 ·rw[h.1 hP];have hI:=S8 hP.1 x.toNat (by have:=hP.2;omega);obtain⟨a,b,c,d,e⟩:=hI.ok.sml hP.1;refine⟨a,b,c,d,λf hf=>⟨e f hf,?_⟩⟩;have hF:=hI.ok.iN f hf;have:=hF.2.1;have:=(hP.1.aV hF.1).2.1.2.1;omega
 ·rw[h.2 hP];simp[Lit,lT]
def UF (g:Heap) (v:Value):Prop:=∃ us u mc M B,v=.tuple #[.agg ⟨us⟩,.agg ⟨mc⟩]/\dG g us u/\gN g mc M B/\P1 M
def UM (g2:Heap) (bb:Nat) (g:Heap) (mc:List Value):Prop:=g2.le g/\g bb=none/\∃ M B,gN g mc M B/\P1 M
theorem UM.fin {g g2 g9:Heap} {bb:Nat} {vb:Value} {p q:Int} {us mc:List Value} {u:aO} (h:UM g2 bb g9 mc) (hg:g.le g2) (hu:dG g2 us u) (h1:p<=q) (h2:q<=p+12000):∃ g' q',dz g9 bb vb q=dz g' bb vb q'/\g.le g'/\g' bb=none/\p<=q'/\q'<=p+12000/\UF g' (.tuple #[.agg ⟨us⟩,.agg ⟨mc⟩]):=by
 obtain⟨l,f,M,B,o,s⟩:=h;exact⟨_,_,rfl,y_ hg l,f,h1,h2,us,u,mc,M,B,rfl,hu.le l,o,s⟩
structure MD (g2 g3:Heap) (bb:Nat) (R:bM) (po:Option Addr) (co:Nat) (pf:Option Addr) (cf:Nat) (pw:Option Addr) (cw:Nat) (B1 B2 B3:List Nat):Prop where
 l3:g2.le g3
 free:g3 bb=none
 o1:eN mA 2 g3 (.slice po R.objs.length co) R.objs B1
 o2:eN qf 4 g3 (.slice pf R.ag.length cf) R.ag B2
 o3:dR g3 (.slice pw R.said.length cw) R.said B3
 nd:Nd (B1++B2++B3)
 fr:∀ b∈B1++B2++B3,g2 b=none
 lit:Lit R
section
variable {g2 g3:Heap} {bb:Nat} {R:bM} {po pf pw:Option Addr} {co cf cw:Nat} {B1 B2 B3:List Nat}
theorem MD.sep (m:MD g2 g3 bb R po co pf cf pw cw B1 B2 B3):(∀ y∈B1,y ∉ B2/\y ∉ B3)/\(∀ y∈B2,y ∉ B1/\y ∉ B3)/\∀ y∈B3,y ∉ B1/\y ∉ B2:=by
 refine⟨λy hy=>?_,λy hy=>?_,λy hy=>?_⟩;all_goals
  have:=m.nd y;have h1:=W_.2 hy;simp only[Y_]at this;exact⟨λh=>by have:=W_.2 h;omega,λh=>by have:=W_.2 h;omega⟩
theorem MD.nd1 (m:MD g2 g3 bb R po co pf cf pw cw B1 B2 B3):Nd B1:=λa=>by have:=m.nd a;simp only[Y_]at this;omega
theorem MD.Un (m:MD g2 g3 bb R po co pf cf pw cw B1 B2 B3):Nd B2:=λa=>by have:=m.nd a;simp only[Y_]at this;omega
theorem MD.i1 (m:MD g2 g3 bb R po co pf cf pw cw B1 B2 B3):∀ b∈B1,g2 b=none/\∃ o,g3 b=some o:=λb hb=>⟨m.fr b (by simp[hb]),m.o1.in Ad b hb⟩
theorem MD.i2 (m:MD g2 g3 bb R po co pf cf pw cw B1 B2 B3):∀ b∈B2,g2 b=none/\∃ o,g3 b=some o:=λb hb=>⟨m.fr b (by simp[hb]),m.o2.in Ui b hb⟩
theorem MD.i3 (m:MD g2 g3 bb R po co pf cf pw cw B1 B2 B3):∀ b∈B3,g2 b=none/\∃ o,g3 b=some o:=λb hb=>⟨m.fr b (by simp[hb]),m.o3.in b hb⟩
theorem N4 {g3 g9:Heap} {A:List Nat} (hA:∀ y∈A,g9 y=g3 y):cR g3 g9 A:=λy hy o ho=>by rw[hA y hy];exact ho
abbrev TQ (R:bM) (po:Option Addr) (co:Nat) (pf:Option Addr) (cf:Nat) (vs:Value) (st fi:Int) (o:Vl):List Value:=[.slice po R.objs.length co,.slice pf R.ag.length cf,vs,.int .i64 st,.int .i64 fi,.bool o.ref,.int .i64 o.n]
theorem MD.same (m:MD g2 g3 bb R po co pf cf pw cw B1 B2 B3) (st fi:Int) (o:Vl):UM g2 bb g3 (TQ R po co pf cf (.slice pw R.said.length cw) st fi o) :=
 ⟨m.l3,m.free,{R with steps:=st,fin:=fi,out:=o},_,⟨_,_,_,B1,B2,B3,rfl,m.o1,m.o2,m.o3,rfl⟩,m.lit.A1.same rfl rfl rfl⟩
theorem MD.obj {K:Prop} (m:MD g2 g3 bb R po co pf cf pw cw B1 B2 B3) {k:Nat} (hk:k < R.objs.length)
  (hK:∀(b:Nat) (c:Int) (pv:Option Addr) (cv:Nat) (pre post:List Value) (t:TypeId) (C:List Nat) (l:List Vl),po=some ⟨b,0,none⟩->g3 b=some (.cells (pre++[Value.int .i64 c,.slice pv (l.map bR).length cv]++post).toArray t (0,0))->pre.length=k*2->cj g3 (.slice pv (l.map bR).length cv) l C->(∀ z∈C,g2 z=none)->b ∉ C->l.length<=1000 ->
   (∀(g5:Heap) (c':Int) (v:Value) (l':List Vl) (C':List Nat),g2.le g5->g5 bb=none->cj g5 v l' C'->l'.length<=1001->(∀ z,z ∉ C->g3 z≠none->g5 z=g3 z)->(∀ z∈C',z∈C\/g3 z=none) ->
    g5 b=some (.cells (pre++[Value.int .i64 c,.slice pv (l.map bR).length cv]++post).toArray t (0,0))/\UM g2 bb (g5.set b (.cells (pre++[Value.int .i64 c',v]++post).toArray t (0,0))) (TQ R po co pf cf (.slice pw R.said.length cw) R.steps R.fin R.out))->K):K:=by
 obtain⟨b,c,pre,w0,post,t,C,hv,hc,hb,fV,tI,hR,GS,E9,TR,P2,put⟩:=m.o1.spot jP m.nd1 hk;simp only[Z_]at hv;obtain⟨rfl,_,rfl⟩:=hv;obtain⟨w,rfl,ow⟩:=hR;obtain⟨pv,cv,rfl,NA⟩:=cr.form ow;obtain⟨s1,s2,s3⟩:=m.sep;refine hK b _ pv cv pre post t C _ rfl hb fV ow (λz hz=>(m.i1 z (TR z hz)).1) E9 (m.lit.2.2.2.1 _ (x_ hk)) λg5 c' v l' C' l5 f5 ow5 tn k5 k6=>?_;have mz:g5 b=g3 b:=k5 b E9 (by rw[hb];simp);refine⟨by rw[mz];exact hb,?_⟩;obtain⟨g9,hg9⟩:∃ g9,g9=g5.set b (.cells (pre++[Value.int .i64 c',v]++post).toArray t (0,0)):=⟨_,rfl⟩
 rw[<-hg9];have e9:∀ z,z≠b->g9 z=g5 z:=λz hz=>by rw[hg9];simp[Heap.set,hz]
 have cH:bb≠b:=by rintro rfl;rw[mz,hb]at f5;cases f5
 have le9:g2.le g9:=by rw[hg9];exact Heap.aP l5 (m.i1 b GS).1
 have nbB:∀ z∈C',z≠b:=λz hz e=>by
  rcases k6 z hz with h|h
  ·exact E9 (e ▸ h)
  ·rw[e,hb]at h;cases h
 have At:∀ z,z≠b->z ∉ C->(∃ o,g3 z=some o)->g9 z=g3 z:=λz h1 h2 ⟨o,h3⟩=>by rw[e9 z h1,k5 z h2 (by rw[h3];simp)]
 obtain⟨jz,o1'⟩:=put g9 [.int .i64 c',v] ⟨c',l'⟩ C' rfl (by rw[hg9];exact dh _ _ _) ⟨_,rfl,ow5.aJ λz hz o ho=>by rw[e9 z (nbB z hz)];exact ho⟩ (λz hz h1 h2=>At z h1 h2 (m.i1 z hz).2);refine⟨le9,by rw[e9 bb cH];exact f5,{R with objs:=R.objs.set k ⟨c',l'⟩},_,⟨_,_,_,jz,B2,B3,by simp,o1',m.o2.aJ mY (N4 λz hz=>At z (λe=>(s2 z hz).1 (e ▸ GS)) (λe=>(s2 z hz).1 (TR z e)) (m.i2 z hz).2),m.o3.aJ (N4 λz hz=>At z (λe=>(s3 z hz).1 (e ▸ GS)) (λe=>(s3 z hz).1 (TR z e)) (m.i3 z hz).2),rfl⟩,?_⟩;have hs:=m.lit;refine⟨by have:=hs.1;simp;omega,hs.A1.ag,hs.A1.said,λo ho=>?_,hs.A1.fr⟩;rcases List.mem_or_eq_of_mem_set ho with h|rfl
 ·exact hs.A1.ob o h
 ·simp only;omega
theorem MD.say (m:MD g2 g3 bb R po co pf cf pw cw B1 B2 B3) {g5:Heap} {v:Value} {l:List Int} {B:List Nat} (l5:g2.le g5) (f5:g5 bb=none) (o:dR g5 v l B) (hl:l.length<=1001) (k5:∀ z,z ∉ B3->g3 z≠none->g5 z=g3 z):UM g2 bb g5 (TQ R po co pf cf v R.steps R.fin R.out):=by
 obtain⟨s1,s2,s3⟩:=m.sep;have At:∀ z,z ∉ B3->(∃ o,g3 z=some o)->g5 z=g3 z:=λz h2 ⟨o,h3⟩=>k5 z h2 (by rw[h3];simp);exact⟨l5,f5,{R with said:=l},_,⟨_,_,_,B1,B2,B,rfl,m.o1.aJ jP (N4 λz hz=>At z (s1 z hz).2 (m.i1 z hz).2),m.o2.aJ mY (N4 λz hz=>At z (s2 z hz).2 (m.i2 z hz).2),o,rfl⟩,⟨m.lit.A1.objs,m.lit.A1.ag,by simp only;omega,m.lit.A1.ob,m.lit.A1.fr⟩⟩
theorem MD.iN {K:Prop} (m:MD g2 g3 bb R po co pf cf pw cw B1 B2 B3) (hk:0 < R.ag.length)
  (hK:∀(b:Nat) (mt pc:Int) (v1:Value) (pv:Option Addr) (cv:Nat) (post:List Value) (t:TypeId) (C1 C2:List Nat) (l1 l2:List Vl),pf=some ⟨b,0,none⟩->g3 b=some (.cells ([]++[Value.int .i64 mt,.int .i64 pc,v1,.slice pv (l2.map bR).length cv]++post).toArray t (0,0))->cj g3 v1 l1 C1->cj g3 (.slice pv (l2.map bR).length cv) l2 C2->(∀ z∈C1++C2,g2 z=none)->b ∉ C1++C2->Nd (C1++C2)->l1.length<=1000->l2.length<=1000->(0<=pc/\pc<=1000) ->
   (∀(g9:Heap) (Cq:Int) (w1 w2:Value) (Rp Rq:List Vl) (UG UH:List Nat),g2.le g9->g9 bb=none->g9 b=some (.cells ([]++[Value.int .i64 mt,.int .i64 Cq,w1,w2]++post).toArray t (0,0))->cj g9 w1 Rp UG->cj g9 w2 Rq UH->Rp.length<=1001->Rq.length<=1001->(∀ z,z≠b->z ∉ C1++C2->g3 z≠none->g9 z=g3 z) ->
    UM g2 bb g9 (TQ R po co pf cf (.slice pw R.said.length cw) R.steps R.fin R.out))->K):K:=by
 obtain⟨b,c,pre,w0,post,t,C,hv,hc,hb,fV,tI,hR,GS,E9,TR,P2,put⟩:=m.o2.spot mY m.Un hk;simp only[Z_]at hv;obtain⟨rfl,_,rfl⟩:=hv;obtain⟨w1,w2,C1,C2,rfl,IQ,HK,rfl⟩:=hR;obtain⟨pv,cv,rfl,NA⟩:=cr.form HK;obtain⟨s1,s2,s3⟩:=m.sep;obtain rfl:pre=[]:=List.eq_nil_of_length_eq_zero (by omega);have hs:=m.lit;have lf:=hs.2.2.2.2 _ (x_ hk);refine hK b _ _ w1 pv cv post t C1 C2 _ _ rfl hb IQ HK (λz hz=>(m.i2 z (TR z hz)).1) E9 P2 lf.1.1 lf.1.2 lf.2 λg9 Cq w1 w2 Rp Rq UG UH l9 f9 h9 o1' Uj n1 n2 k9=>?_;have At:∀ z,z≠b->z ∉ C1++C2->(∃ o,g3 z=some o)->g9 z=g3 z:=λz h1 h2 ⟨o,h3⟩=>k9 z h1 h2 (by rw[h3];simp);obtain⟨ie,Uj⟩:=put g9 [.int .i64 R.ag[0].U,.int .i64 Cq,w1,w2] ⟨R.ag[0].U,Cq,Rp,Rq⟩ (UG++UH) rfl h9 ⟨w1,w2,UG,UH,rfl,o1',Uj,rfl⟩ (λz hz h1 h2=>At z h1 h2 (m.i2 z hz).2);refine⟨l9,f9,{R with ag:=R.ag.set 0 ⟨R.ag[0].U,Cq,Rp,Rq⟩},_,⟨_,_,_,B1,ie,B3,by simp,m.o1.aJ jP (N4 λz hz=>At z (λe=>(s1 z hz).1 (e ▸ GS)) (λe=>(s1 z hz).1 (TR z e)) (m.i1 z hz).2),Uj,m.o3.aJ (N4 λz hz=>At z (λe=>(s3 z hz).2 (e ▸ GS)) (λe=>(s3 z hz).2 (TR z e)) (m.i3 z hz).2),rfl⟩,?_⟩;refine⟨hs.A1.objs,by have:=hs.2.1;simp;omega,hs.A1.said,hs.A1.ob,λo ho=>?_⟩;rcases List.mem_or_eq_of_mem_set ho with h|rfl
 ·exact hs.A1.fr o h
 ·simp only;omega
theorem MD.frf (m:MD g2 g3 bb R po co pf cf pw cw B1 B2 B3) (hk:0 < R.ag.length) {b:Nat} (Bj:pf=some ⟨b,0,none⟩):g2 b=none:=by
 obtain⟨b',_,_,_,_,_,_,hv,_,_,_,_,_,hB',_⟩:=m.o2.spot mY m.Un hk;rw[Bj]at hv;simp only[Z_,v_,Addr.mk.injEq,and_true]at hv;rw[hv.1];exact(m.i2 _ hB').1
theorem TS {K:Prop} {vb:Value} {b:Nat} {mt pc:Int} {Us pv:Option Addr} {ZJ cv:Nat} {post:List Value} {t:TypeId} {C1 C2:List Nat} {la lb:List Vl} (m:MD g2 g3 bb R po co pf cf pw cw B1 B2 B3) (Ai:0 < la.length)
  (hb:g3 b=some (.cells ([]++[Value.int .i64 mt,.int .i64 pc,.slice Us (la.map bR).length ZJ,.slice pv (lb.map bR).length cv]++post).toArray t (0,0))) (IQ:cj g3 (.slice Us (la.map bR).length ZJ) la C1) (HK:cj g3 (.slice pv (lb.map bR).length cv) lb C2) (hC:∀ z∈C1++C2,g2 z=none) (E9:b ∉ C1++C2) (P2:Nd (C1++C2)) (ha:la.length<=1000) (fO:lb.length<=1000)
  (put:∀(g9:Heap) (Cq:Int) (w1 w2:Value) (Rp Rq:List Vl) (UG UH:List Nat),g2.le g9->g9 bb=none->g9 b=some (.cells ([]++[Value.int .i64 mt,.int .i64 Cq,w1,w2]++post).toArray t (0,0))->cj g9 w1 Rp UG->cj g9 w2 Rq UH->Rp.length<=1001->Rq.length<=1001->(∀ z,z≠b->z ∉ C1++C2->g3 z≠none->g9 z=g3 z)->UM g2 bb g9 (TQ R po co pf cf (.slice pw R.said.length cw) R.steps R.fin R.out))
  (hK:∀(b1:Nat) (vY:List Value) (t1:TypeId),Us=some ⟨b1,0,none⟩->g3 b1=some (.cells ([]++bR la[0]++vY).toArray t1 (0,0))->(∀ y,UM g2 bb (g3.set b1 (.cells ([]++bR y++vY).toArray t1 (0,0))) (TQ R po co pf cf (.slice pw R.said.length cw) R.steps R.fin R.out))->K):K:=by
 obtain⟨b1,c9,vY,t1,JV,rfl,gL,adY,EJ⟩:=IQ.spot (by simpa using Ai);simp only[Z_]at JV;obtain⟨rfl,_,rfl⟩:=JV;have adt:b≠b1:=λe=>E9 (by simp[e]);have n12:b1 ∉ C2:=λh=>by
  have:=P2 b1;have h2:=W_.2 h;simp only[Y_,X_,List.count_nil,beq_self_eq_true,if_true]at this;omega
 refine hK b1 vY t1 rfl (by simpa using gL) λy=>?_;have e9:∀ z,z≠b1->(g3.set b1 (.cells ([]++bR y++vY).toArray t1 (0,0))) z=g3 z:=λz hz=>by simp[Heap.set,hz]
 have cH:bb≠b1:=by rintro rfl;have:=m.free;rw[gL]at this;cases this
 have aaD:=EJ (g3.set b1 (.cells ([]++bR y++vY).toArray t1 (0,0))) (bR y) rfl (dh _ _ _);rw[<-List.map_set]at aaD;exact put _ pc _ _ (la.set 0 y) lb [b1] C2 (Heap.aP m.l3 (hC b1 (by simp))) (by rw[e9 bb cH];exact m.free) (by rw[e9 b adt];exact hb) aaD (HK.aJ (N4 λz hz=>e9 z λe=>n12 (e ▸ hz))) (by simp;omega) (by omega) λz h1 h2 _=>e9 z λe=>h2 (by simp[e])
end
theorem Fa {g2 g3:Heap} {bb:Nat} {vb:Value} {q0 q:Int} {pv:Option Addr} {cv:Nat} {l:List Vl} {C:List Nat} {y:Vl} {el:TypeId} {K:Value->Heap->Prop} (r2:bC g2 bb vb q0) (rq:bC g3 bb vb q) (l3:g2.le g3) (ow:cj g3 (.slice pv (l.map bR).length cv) l C) (fr:∀ z∈C,g2 z=none) (hl:l.length<=1000)
  (hK:∀ p' c' g5 B',g2.le g5->bC g5 bb vb q->cj g5 (.slice p' (l++[y]).length c') (l++[y]) B'->(∀ b,b ∉ C->g3 b≠none->g5 b=g3 b)->(∀ b∈B',b∈C\/g3 b=none)->K (.slice p' (l++[y]).length c') (dz g5 bb vb q)):App 16 2 [.bool false,.int .i64 0] el (dz g3 bb vb q) pv (l.map bR).length cv 1 (bR y) K :=
 oB (ys:=[bR y]) r2 rq ow fr l3 (by simp) rfl (by simp[bR]) rfl rfl (by simp;omega) (by simp;omega) λv' g5 B' k1 k2 k3 k4 k5 k6=>by
  have ER:cj g5 v' (l++[y]) B':=by simpa [cj]using k3
  obtain⟨p',c',rfl,_⟩:=cr.form ER;rw[List.length_map]at ER ⊢;exact hK p' c' g5 B' k1 k2 ER k5 k6
theorem M8 {g:Heap} {bb:Nat} {vb:Value} {p:Int} (n:Int) (r:bC g bb vb p) (hp:p<=90000000) (hn:0<=n/\n<=100000) :
  Dr prog 50 [.pointer (some ⟨bb,0,none⟩),.int .i64 n] g bb vb p 3 λg' v=>g'=g/\∃ x:Vl,v=.agg ⟨bR x⟩:=by
 refine bZ au func50 F50 abv rfl ?_;conv=>whnf
 refine bF r (by omega) (λx x0 x1 x2 r1=>?_);conv=>whnf
 apply ax<;>intro _;all_goals conv=>whnf
 ·refine gY r1 (BB r1 (by omega)) (λv g2 q l2 r2 q0 q1 hA=>?_);obtain⟨rfl,y,rfl,_,_⟩:=hA;conv=>whnf
  exact⟨_,_,rfl,z_ _,r2.free,by omega,by omega,rfl,⟨false,y⟩,rfl⟩
 ·refine ah ?_;conv=>whnf
  refine bF r1 (by omega) (λy y0 y1 y2 r2=>?_);conv=>whnf
  exact⟨_,_,rfl,z_ _,r2.free,by omega,by omega,rfl,⟨true,y⟩,rfl⟩
theorem JJ {g:Heap} {bb:Nat} {vb:Value} {p:Int} (r:bC g bb vb p) (hp:p<=20000000) (hB:TG g) :
  Dr prog 25 [.pointer (some ⟨bb,0,none⟩)] g bb vb p 12000 UF:=by
 refine bZ au func25 G25 Z4 rfl ?_;conv=>whnf
 refine gY r (JG r (by omega) hB) (λv g1 q1 l1 r1 q10 q11 hA=>?_);refine Rj.elim hA λp1 n1 c1 p2 n2 c2 u hv hu=>?_;subst hv;conv=>whnf
 refine gY r1 (zZ r1 (by omega)) (λv g2 q2 l2 r2 q20 q21 hA=>?_);obtain⟨rfl,x,rfl,x0,x1⟩:=hA;obtain⟨R,EF⟩:=EE u x;conv=>whnf
 refine Ib r2 (R:=λv g'=>∃ mc B,v=.agg ⟨mc⟩/\gN g' mc R B/\Nd B/\∀ b∈B,g2 b=none) (zy _ u x g2 hu R EF) (λv g3 l3 r3 hh=>?_);obtain⟨mc,B,rfl,own,nd,fr⟩:=hh;obtain⟨po,co,pf,cf,pw,cw,rfl⟩:=own.nI;unfold nI ay at own ⊢;obtain⟨vo,vf,vs,B1,B2,B3,e,o1,o2,o3,rfl⟩:=own;simp only[List.cons.injEq,and_true]at e;obtain⟨rfl,rfl,rfl⟩:=e;have m:MD g2 g3 bb R po co pf cf pw cw B1 B2 B3:=⟨l3,r3.free,o1,o2,o3,nd,fr,EF.small⟩
 have vq:=m.lit.1;clear nd fr hA;conv=>whnf
 refine bF r3 (by omega) (λy y0 y1 y2 r4=>?_);clear y1 y2;conv=>whnf
 repeat' ((first|apply T_|exact trivial|apply ax<;>intro _|apply aT<;>intro _|exact(m.same R.steps R.fin R.out).fin l1 hu (by omega) (by omega))<;>conv=>whnf)
 refine bF r4 (by omega) (λk k0 k1 k2 r5=>?_);have GF:k.toNat < R.objs.length:=by omega
 conv=>whnf
 refine bF r5 (by omega) (λz z0 z1 z2 r6=>?_);have hz:z=0\/z=1\/z=2\/z=3\/z=4\/z=5\/z=6\/z=7\/z=8:=by omega
 clear k1 k2 z0 z1 z2;have dv:∀(n:Int) (K:Value->Heap->Prop) (E:List PanicEntry->Heap->Prop),0<=n/\n<=100000->(∀ y q4,bC g3 bb vb q4->q2<=q4->q4<=q2+10->K (.agg #[.bool (Vl.ref y),.int .i64 (Vl.n y)]) (dz g3 bb vb q4))->Go.Vc.Call prog 50 [.pointer (some ⟨bb,0,none⟩),.int .i64 n] (dz g3 bb vb (q2+1+1+1)) K E:=λn K E hn hK =>
  gY r6 (M8 n r6 (by omega) hn) λv g4 q4 l4 r7 MM MN hA=>by
   obtain⟨rfl,y,rfl⟩:=hA;exact hK y q4 r7 (by omega) (by omega)
 rcases hz with rfl|rfl|rfl|rfl|rfl|rfl|rfl|rfl|rfl
 ·conv=>whnf
  refine bF r6 (by omega) (λy y0 y1 y2 r7=>?_);rcases(show y=0\/y=1\/y=2 by omega)with rfl|rfl|rfl;all_goals
   conv=>whnf
   repeat' ((first|refine aq ?_|apply T_|exact trivial)<;>conv=>whnf)
   all_goals exact(m.same _ R.fin R.out).fin l1 hu (by omega) (by omega)
 ·conv=>whnf
  refine bF r6 (by omega) (λy y0 y1 y2 r7=>?_);conv=>whnf
  repeat' ((first|apply T_|exact trivial)<;>conv=>whnf)
  all_goals exact(m.same R.steps _ R.out).fin l1 hu (by omega) (by omega)
 ·conv=>whnf
  refine dv _ _ _ (by omega) (λy q4 r7 MM MN=>?_);conv=>whnf
  repeat' ((first|refine aq ?_|apply T_|exact trivial)<;>conv=>whnf)
  all_goals exact(m.same R.steps R.fin y).fin l1 hu (by omega) (by omega)
 ·refine m.obj GF λb c pv cv pre post t C l ZT hb fV ow hC E9 hl put=>?_;conv=>whnf
  refine bF r6 (by omega) (λy y0 y1 y2 r7=>?_);have hP:=(put g3 (y-3) _ l C m.l3 m.free ow (by omega) (λ_ _ _=>rfl) (λz hz=>.inl hz)).2;conv=>whnf
  repeat' ((first|apply T_|exact trivial|refine aq ?_|refine ah ?_|refine aG ZT ?_|refine jS r7.free hb (by simp only[U_,List.length_cons,List.length_nil];omega) (jZ (i:=0) (by show 0+k.toNat*2+0=_;omega) (by simp)) ?_)<;>conv=>whnf)
  all_goals exact hP.fin l1 hu (by omega) (by omega)
 ·refine m.obj GF λb c pv cv pre post t C l ZT hb fV ow hC E9 hl put=>?_;have rv:∀ n,n=0+k.toNat*2+1->rd g3 b n=some _:=λn hn=>bE hb (i:=1) (by omega) rfl;conv=>whnf
  repeat' ((first|apply T_|exact trivial|refine aq ?_|refine ah ?_|refine aG ZT ?_|refine ld (aX (aY r6.free) (rv _ rfl)) ?_|refine dv _ _ _ (by omega) (λy q4 r7 MM MN=>?_)|(refine Fa (y:=y) r2 r7 m.l3 ow hC hl (λp' c' g5 B' k1 k2 k3 k5 k6=>?_);have hP:=put g5 c _ _ B' k1 k2.free k3 (by simp;omega) k5 k6)|refine jS k2.free hP.1 (by simp only[U_,List.length_cons,List.length_nil];omega) (jZ (i:=1) (by show 0+k.toNat*2+1=_;omega) (by simp)) ?_)<;>conv=>whnf)
  all_goals exact hP.2.fin l1 hu (by omega) (by omega)
 ·conv=>whnf
  refine bF r6 (by omega) (λy y0 y1 y2 r7=>?_);rcases(show y=0\/y=1 by omega)with rfl|rfl;all_goals
   conv=>whnf
   repeat' ((first|apply T_|exact trivial|refine aq ?_|refine vQ (k:=[_]) r2 r7 m.o3 (λz hz=>(m.i3 z hz).1) m.l3 rfl (by have:=m.lit.2.2.1;simp;omega) (λp' c' g5 B' k1 k2 k3 _ ev=>?_))<;>conv=>whnf)
   all_goals exact(m.say k1 k2.free k3 (by have:=m.lit.2.2.1;simp;omega) λz h1 h2=>ev.iB z h2 h1).fin l1 hu (by omega) (by omega)
 ·by_cases HC:0 < R.ag.length
  ·refine m.iN HC λb mt pc v1 pv cv post t C1 C2 la lb Bj hb IQ HK hC E9 P2 ha fO AW put=>?_;have r1:rd g3 b 3=some _:=bE hb (i:=3) rfl rfl;have adu:∀ y p' c' g5 B',g2.le g5->bC g5 bb vb 0->cj g5 (.slice p' (lb++[y]).length c') (lb++[y]) B'->(∀ b,b ∉ C2->g3 b≠none->g5 b=g3 b)->(∀ b∈B',b∈C2\/g3 b=none)->g5 b=g3 b/\UM g2 bb (g5.set b (.cells ([]++[Value.int .i64 mt,.int .i64 pc,v1,.slice p' (lb++[y]).length c']++post).toArray t (0,0))) (TQ R po co pf cf (.slice pw R.said.length cw) R.steps R.fin R.out):=by
    intro y p' c' g5 B' k1 k2 k3 k5 k6;have aaE:b ∉ C2:=λh=>E9 (by simp[h]);have mz:g5 b=g3 b:=k5 b aaE (by rw[hb];simp);have gz:g2 b=none:=m.frf HC Bj;have e9:∀ z,z≠b->(g5.set b (.cells ([]++[Value.int .i64 mt,.int .i64 pc,v1,.slice p' (lb++[y]).length c']++post).toArray t (0,0))) z=g5 z:=λz hz=>by simp[Heap.set,hz]
    have cH:bb≠b:=by rintro rfl;have:=k2.free;rw[mz,hb]at this;cases this
    have nbB:∀ z∈B',z≠b:=λz hz e=>by
     rcases k6 z hz with h|h
     ·exact aaE (e ▸ h)
     ·rw[e,hb]at h;cases h
    refine⟨mz,put _ pc _ _ la _ C1 B' (Heap.aP k1 gz) (by rw[e9 bb cH];exact k2.free) (dh _ _ _) (IQ.aJ (N4 λz hz=>?_)) (k3.aJ λz hz o ho=>by rw[e9 z (nbB z hz)];exact ho) (by omega) (by simp;omega) λz h1 h2 h3=>by rw[e9 z h1,k5 z (λh=>h2 (by simp[h])) h3]⟩;have h1:z≠b:=λe=>E9 (by rw[<-e];simp[hz]);rw[e9 z h1,k5 z (λh=>?_) (by obtain⟨o,ho⟩:=IQ.in z hz;rw[ho];simp)];have:=P2 z;have h1:=W_.2 hz;have h2:=W_.2 h;simp only[Y_]at this;omega
   have hC2:∀ z∈C2,g2 z=none:=λz hz=>hC z (by simp[hz]);conv=>whnf
   refine cx ?_;conv=>whnf
   repeat' ((first|apply T_|exact trivial|refine aq ?_|refine aG Bj ?_|refine ld (aX (aY r6.free) r1) ?_|refine dv _ _ _ (by omega) (λy q4 r7 MM MN=>?_)|(refine Fa (y:=y) r2 r7 m.l3 HK hC2 fO (λp' c' g5 B' k1 k2 k3 k5 k6=>?_);have hP:=adu y p' c' g5 B' k1 ⟨k2.free,k2.bytes,by omega⟩ k3 k5 k6)|refine jS k2.free (hP.1.trans hb) (by simp only[U_,List.length_cons,List.length_nil];omega) (jZ (i:=3) rfl (by simp)) ?_)<;>conv=>whnf)
   all_goals exact hP.2.fin l1 hu (by omega) (by omega)
  ·conv=>whnf
   repeat' ((first|apply T_|exact trivial|refine bH ?_|exact(m.same R.steps R.fin R.out).fin l1 hu (by omega) (by omega))<;>conv=>whnf)
 ·by_cases HC:0 < R.ag.length
  ·refine m.iN HC λb mt pc v1 pv cv post t C1 C2 la lb Bj hb IQ HK hC E9 P2 ha fO AW put=>?_;obtain⟨Us,ZJ,rfl,_⟩:=cr.form IQ;have r1:rd g3 b 2=some _:=bE hb (i:=2) rfl rfl;by_cases Ai:0 < la.length
   ·refine TS (vb:=vb) (mt:=mt) (pc:=pc) m Ai hb IQ HK hC E9 P2 ha fO put λb1 vY t1 xK gL hF=>?_;conv=>whnf
    refine cx ?_;conv=>whnf
    repeat' ((first|apply T_|exact trivial|refine ob (by first|omega|(simp only[List.length_map];omega)) ?_|refine aG Bj ?_|refine aG xK ?_|refine ah ?_|refine ld (aX (aY r6.free) r1) ?_|refine gI (by simp only[List.length_map];omega) ?_|refine dv _ _ _ (by omega) (λy q4 r7 MM MN=>?_)|refine jS r7.free gL (by simp[bR]) (zV (pre:=[]) (y:=bR y) rfl rfl) ?_)<;>conv=>whnf)
    all_goals exact(hF y).fin l1 hu (by omega) (by omega)
   ·conv=>whnf
    refine cx ?_;conv=>whnf
    repeat' ((first|apply T_|exact trivial|refine ob (by first|omega|(simp only[List.length_map];omega)) ?_|refine aG Bj ?_|refine ld (aX (aY r6.free) r1) ?_|refine cM (by simp only[List.length_map];omega) ?_|exact(m.same R.steps R.fin R.out).fin l1 hu (by omega) (by omega))<;>conv=>whnf)
  ·conv=>whnf
   repeat' ((first|apply T_|exact trivial|refine bH ?_|exact(m.same R.steps R.fin R.out).fin l1 hu (by omega) (by omega))<;>conv=>whnf)
 ·by_cases HC:0 < R.ag.length
  ·refine m.iN HC λb mt pc v1 pv cv post t C1 C2 la lb Bj hb IQ HK hC E9 P2 ha fO AW put=>?_;have r1:rd g3 b 1=some _:=bE hb (i:=1) rfl rfl;have cH:bb≠b:=by rintro rfl;have:=r6.free;rw[hb]at this;cases this
   have e9:∀ z,z≠b->(g3.set b (.cells ([]++[Value.int .i64 mt,.int .i64 (pc+1),v1,.slice pv (lb.map bR).length cv]++post).toArray t (0,0))) z=g3 z:=λz hz=>by simp[Heap.set,hz]
   have hP:=put (g3.set b (.cells ([]++[Value.int .i64 mt,.int .i64 (pc+1),v1,.slice pv (lb.map bR).length cv]++post).toArray t (0,0))) (pc+1) v1 _ la lb C1 C2 (Heap.aP m.l3 (m.frf HC Bj)) (by rw[e9 bb cH];exact m.free) (dh _ _ _) (IQ.aJ (N4 λz hz=>e9 z λe=>E9 (by rw[<-e];simp[hz]))) (HK.aJ (N4 λz hz=>e9 z λe=>E9 (by rw[<-e];simp[hz]))) (by omega) (by omega) λz h1 _ _=>e9 z h1;conv=>whnf
   refine cx ?_;conv=>whnf
   repeat' ((first|apply T_|exact trivial|refine aq ?_|refine aG Bj ?_|refine ah ?_|refine ld (aX (aY r6.free) r1) ?_|refine jS r6.free hb (by simp only[U_,List.length_cons,List.length_nil];omega) (jZ (i:=1) rfl (by simp)) ?_)<;>conv=>whnf)
   all_goals exact hP.fin l1 hu (by omega) (by omega)
  ·conv=>whnf
   repeat' ((first|apply T_|exact trivial|refine bH ?_|exact(m.same R.steps R.fin R.out).fin l1 hu (by omega) (by omega))<;>conv=>whnf)
theorem UF.elim {g:Heap} {v:Value} {K:Prop} (h:UF g v) (hk:∀ p n c q m d u po co pf cf pw cw M B,v=.tuple #[.agg #[.slice p n c,.slice q m d],.agg ⟨nI po co pf cf pw cw M⟩]->dG g [.slice p n c,.slice q m d] u->gN g (nI po co pf cf pw cw M) M B->P1 M->K):K:=by
 obtain⟨us,u,mc,M,B,rfl,h,o,s⟩:=h;obtain⟨cp,cc,q,d,rfl,_⟩:=h.form;obtain⟨po,co,pf,cf,pw,cw,rfl⟩:=o.nI;exact hk _ _ _ _ _ _ _ _ _ _ _ _ _ _ _ rfl h o s
theorem M9 (v:Value) (n:Nat) (h:Heap) (hB:Bytes h v n) (hn:n<=1000000000000000) (hy:TG h) :
  bI prog 10 [v] h λr h'=>h.le h'/\UF h' r:=by
 refine bZ au func10 G10 Z3 rfl ?_;conv=>whnf
 refine aC (M7 v n h hB hn) ?_;rintro v0 h0 ⟨bb,vb,rfl,rfl,r⟩;conv=>whnf
 refine bF r (by omega) (λx x0 x1 x2 r2=>?_);conv=>whnf
 apply ax<;>intro c0;all_goals conv=>whnf
 ·refine gY r2 (JJ r2 (by omega) hy) (λv g3 q3 l3 r3 q30 q31 hA=>?_);refine UF.elim hA λp1 n1 c1 p2 n2 c2 u po co pf cf pw cw M B hv hu o s=>?_;subst hv;unfold nI ay at o ⊢;conv=>whnf
  exact⟨y_ l3 (aY r3.free),_,u,_,M,B,rfl,hu.le (aY r3.free),o.aJ (cR.of_le (aY r3.free) _),s⟩
 ·refine gY r2 (G6 r2 (by omega) hy) (λv g3 q3 l3 r3 q30 q31 hA=>?_);refine Rj.elim hA λp1 n1 c1 p2 n2 c2 u hv hu=>?_;subst hv;conv=>whnf
  repeat' ((first|exact⟨y_ l3 (y_ l5 (aY r5.free)),_,u,_,R,B,rfl,hu.le (y_ l5 (aY r5.free)),own.aJ (cR.of_le (aY r5.free) _),EF.small.A1⟩|apply T_|exact trivial|(refine gY r3 (zZ r3 (by omega)) (λv g4 q4 l4 r4 MM MN hA=>?_);obtain⟨rfl,x,rfl,x0,x1⟩:=hA;refine(EE u x).elim λR EF=>?_)|(refine Ib r4 (R:=λv g'=>∃ mc B,v=.agg ⟨mc⟩/\gN g' mc R B/\Nd B/\∀ b∈B,g4 b=none) (zy _ u x g4 hu R EF) (λv g5 l5 r5 hh=>?_);obtain⟨mc,B,rfl,own,nd,fr⟩:=hh;obtain⟨_,_,_,_,_,_,rfl⟩:=own.nI;unfold nI ay at own ⊢))<;>conv=>whnf)
open Go.Vc Go.Proofs.Tryz
set_option maxRecDepth 100000
set_option maxHeartbeats 4000000
theorem P3 {P:Program} {t:TypeId} {f0 f1:Field} {k':IntKind} (a a':Bool) (c c':Int) (h3:P.underlying t=some (.struct #[f0,f1])) (h4:P.stoodInHeld t=false) (qP:f0.name≠ "_") (AX:f1.name≠ "_") (h5:P.underlying f0.type=some .bool) (h6:P.underlying f1.type=some (.int k'))
  (EO:∀(a:Bool) (c:Int) (w:World),(part f0.type #[.bool a,.int .i64 c] f0.offset).run P w=.ok (.bool a) w) (xK:∀(a:Bool) (c:Int) (w:World),(part f1.type #[.bool a,.int .i64 c] f1.offset).run P w=.ok (.int .i64 c) w) (w:World) :
  (Go.binOp .eql t (.agg #[.bool a,.int .i64 c]) (.agg #[.bool a',.int .i64 c'])).run P w=.ok (.bool (a==a'&&c==c')) w:=by
 have hf:P.fieldsOf t = #[f0,f1]:=by simp[Program.fieldsOf,h3]
 have e1:(Op.equalIn (9999+1) t (.agg #[.bool a,.int .i64 c]) (.agg #[.bool a',.int .i64 c'])).run P w=.ok (a==a'&&c==c') w:=by
  rw[run_equalIn_struct w 9999 t _ _ (by rw[hf];exact h3) h4,hf];simp only[Op.eqFields,qP,AX,ne_eq,not_false_eq_true,if_true,Sem.run_bind,EO,xK,Result.andThen_ok];rw[show(9999:Nat)=9998+1 from rfl,run_equalIn_bool' w 9998 f0.type a a' h5];by_cases ha:a=a'
  ·subst ha;simp only[Result.andThen_ok,beq_self_eq_true,Bool.not_true,Bool.false_eq_true,if_false,Sem.run_bind,xK];rw[run_equalIn_int w 9998 f1.type .i64 k' c c' h6];by_cases hc:c=c'<;>simp[hc]
  ·have:(a==a')=false:=by simpa using ha
   simp[this]
 have e3:(Op.equal t (.agg #[.bool a,.int .i64 c]) (.agg #[.bool a',.int .i64 c'])).run P w=.ok (a==a'&&c==c') w:=e1;rw[show Go.binOp .eql t (.agg #[.bool a,.int .i64 c]) (.agg #[.bool a',.int .i64 c'])=(do pure (.bool (<-Op.equal t (.agg #[.bool a,.int .i64 c]) (.agg #[.bool a',.int .i64 c']))))from rfl];simp only[Sem.run_bind,e3,Result.andThen_ok,Sem.run_pure]
theorem Na (x y:Vl) (w:World):(Go.binOp .eql 31 (.agg #[.bool x.ref,.int .i64 x.n]) (.agg #[.bool y.ref,.int .i64 y.n])).run prog w=.ok (.bool (x.ref==y.ref&&x.n==y.n)) w:=by
 refine P3 _ _ _ _ rfl ?_ ?_ ?_ rfl rfl ?_ ?_ w
 ·kernel_rfl
 ·decide
 ·decide
 ·intro a c w;rfl
 ·intro a c w;rfl
theorem Nb (x:Vl):(x.ref==false&&x.n==0)=true↔x=cU:=by
 obtain⟨r,n⟩:=x;cases r<;>simp[cU]
theorem x8.le {h h':Heap} (hl:h.le h') {xs:List Value} {o:Ob} (hx:x8 h xs o):x8 h' xs o:=by
 obtain⟨v,e,hv⟩:=hx;exact⟨v,e,hv.le hl (λ_ _ hx=>hx)⟩
theorem tB.le {h h':Heap} (hl:h.le h') {xs:List Value} {f:bQ} (hx:tB h xs f):tB h' xs f:=by
 obtain⟨v,w,e,hv,hw⟩:=hx;exact⟨v,w,e,hv.le hl (λ_ _ hx=>hx),hw.le hl (λ_ _ hx=>hx)⟩
theorem xg.le {h h':Heap} (hl:h.le h') {mc:List Value} {M:bM} (hx:xg h mc M):xg h' mc M:=by
 obtain⟨vo,vf,vs,e,w1,w2,w3⟩:=hx;exact⟨vo,vf,vs,e,w1.le hl (λ_ _ hx=>x8.le hl hx),w2.le hl (λ_ _ hx=>tB.le hl hx),w3.le hl (λ_ _ hx=>hx)⟩
theorem gx {P:Program} {f:FuncId} {args:List Value} {h:Heap} {K:Value->Heap->Prop} {E:List PanicEntry->Heap->Prop} {p:Prop} (k:Go.Vc.Pure P f args h (tf p)) (ht:p->K (.bool true) h) (hf:¬p->K (.bool false) h):Go.Vc.Call P f args h K E:=by
 by_cases hp:p
 ·rw[fk hp]at k;exact aj k (ht hp)
 ·rw[dD hp]at k;exact aj k (hf hp)
theorem Nc {P:Program} {f:FuncId} {args:List Value} {h:Heap} {K:Value->Heap->Prop} {E:List PanicEntry->Heap->Prop} {p:Prop} (k:Go.Vc.Pure P f args h (tf p)) (ht:p->K (.bool true) h) (hf:¬p->K (.bool false) h):iF P f args h K E:=by
 by_cases hp:p
 ·rw[fk hp]at k;exact aK k (ht hp)
 ·rw[dD hp]at k;exact aK k (hf hp)
structure aaF (v x:Value) (h' h:Heap):Prop where
 e:v=x
 k:h.le h'
theorem jh {P:Program} {f:FuncId} {args:List Value} {h:Heap} {S:oD} (hS:dQ P S) {fn:Func} (hf:P.funcs[f]? = some fn) (F:Fs) {k:Nat} (eP:aL F fn k=true) {x:Value} (hl:args.length=k) (hx:Goal P S F fn args h λo h'=>match o with
  | .ret v=>aaF v x h' h
  | .lY _=>False):Go.Vc.Pure P f args h x:=by
 subst hl;unfold Go.Vc.Pure bI;refine(calls hS hf F eP hx).shrink λo h' hh=>?_;cases o with
 | ret v=>exact⟨h,hh.2,hh.1,rfl⟩
 | lY c=>exact hh.elim
theorem Fb (x:Vl) (n:Nat) (h:Heap):Pure prog 43 [.agg ⟨bR x⟩,.int .i64 n] h (tf (kE n x)):=by
 obtain⟨r,k⟩:=x;show Go.Vc.Pure _ _ [.agg #[.bool r,.int .i64 k],.int .i64 n] h (tf ((r=true->0<=k/\k<=n)/\(r=false->isWord k=true)));refine jh au func43 F43 abn rfl ?_;cases r
 all_goals conv=>whnf
 ·refine aj (rj _ h) ?_;conv=>whnf
  refine⟨?_,z_ h⟩;by_cases hw:isWord k=true
  ·rw[hw];exact dZ (by simp[hw])
  ·have:isWord k=false:=by simpa using hw
   rw[this];exact bY (by simp[this])
 ·refine aj (dP _ _ _ h) ?_;conv=>whnf
  repeat' ((first|apply ax<;>intro g|apply aT<;>intro g)<;>conv=>whnf)
  all_goals first|exact⟨dZ ⟨λ_=>by omega,λh=>nomatch h⟩,z_ h⟩|exact⟨bY (λhx=>by have:=hx.1 rfl;omega),z_ h⟩|exact⟨gy ⟨λhx=>by have:=hx.1 rfl;omega,λhx=>⟨λ_=>by omega,λh=>nomatch h⟩⟩,z_ h⟩
theorem xj (v:Value) (l:List Vl) (n:Nat) (h:Heap) (hv:Row 2 G7 h v l):Pure prog 79 [v,.int .i64 n] h (tf (∀ x∈l,kE n x)):=by
 obtain⟨p,c,rfl,hc,hn⟩:=hv.len;refine jh au func79 F79 abT rfl ?_;conv=>whnf
 refine fh [0,1,5] [] (λi:Nat=>i<=l.length/\∀ x∈l.take i,kE n x) (λi=>l.length-i)
  (λi=>([.v (.slice p l.length c),.v (.int .i64 n),.v (.int .i64 i)],[],h)) 0 ⟨Nat.zero_le _,by simp⟩ rfl ?_
 rintro i ⟨hi,hj⟩;conv=>whnf
 apply ax<;>intro g;all_goals conv=>whnf
 ·have bV:i < l.length:=by omega
  obtain⟨b,off,vs,hp,e1,e2⟩:=hv.get bV;have bX:=Fb l[i] n h;obtain rfl:=e2;unfold bR at bX;refine aq ?_;conv=>whnf
  refine aG hp ?_;conv=>whnf
  refine dJ e1 ?_;conv=>whnf
  by_cases hw:kE n l[i]
  ·rw[fk hw]at bX;refine aj bX ?_;conv=>whnf
   refine ah ?_;conv=>whnf
   exact dm (i+1) ⟨by omega,λx hx=>by
    rw[List.take_add_one,u_]at hx;rcases hx with hx|hx
    ·exact hj x hx
    ·rw[w_ bV]at hx;simp at hx;subst hx;exact hw⟩ (by omega) rfl
  ·rw[dD hw]at bX;refine aj bX ?_;conv=>whnf
   exact⟨bY λha=>hw (ha _ (x_ bV)),z_ h⟩
 ·have:i=l.length:=by omega
  subst this;rw[List.take_length]at hj;exact⟨dZ hj,z_ h⟩
theorem G8 {K:Value->Heap->Prop} {E:List PanicEntry->Heap->Prop} {p:Option Addr} {n c:Nat} {cs:List eD} {x:Int} {h:Heap} (hr:fP h (.slice p n c) cs) (ok:cI cs) (h0:0<=x/\x < cs.length) (hK:∀ h' p' c',h.le h'->K (.slice p' (dw cs x).length c') h') :
  iF prog 80 [.slice p n c,.int .i64 x] h K E:=cX (jJ _ p n c cs x h hr ok h0.1 h0.2 (Nat.lt_succ_self _)) (λv h' hh=>by
 obtain⟨l1,B,own,_⟩:=hh;obtain⟨p',c',rfl,_⟩:=own.form;rw[List.length_map];exact⟨l1,hK h' p' c' l1⟩)
theorem Db {u:aO} {n:Nat} {o:Ob} (hV:∀ x∈o.aW,kE n x):HO u n o↔(((o.cls = -1\/o.cls = -2)/\o.aW.length<=6)\/(0<=o.cls/\o.cls < u.J.length/\o.aW.length=(dw u.J o.cls).length)):=⟨λh=>h.2,λh=>⟨hV,h⟩⟩
theorem Nf (us:List Value) (u:aO) (o:Ob) (xs:List Value) (n:Nat) (h:Heap) (hu:dG h us u) (hT:cz u) (ho:x8 h xs o):Pure prog 44 [.agg ⟨us⟩,.agg ⟨xs⟩,.int .i64 n] h (tf (HO u n o)):=by
 obtain⟨p,cc,q,d,rfl,hcs,fM,ji,hl2⟩:=hu.form;obtain⟨v,rfl,hv⟩:=ho;have xJ:=xj v o.aW n h hv;obtain⟨pv,cv,rfl,hc,hn⟩:=hv.len;have TT:=hT.1;have zi:=hT.1.1;refine jh au func44 F44 abo rfl ?_;conv=>whnf
 by_cases hV:∀ x∈o.aW,kE n x
 ·rw[fk hV]at xJ;refine aj xJ ?_;conv=>whnf
  repeat' ((first|apply ax<;>intro _|apply aT<;>intro _|refine ah ?_|refine aK (dP _ _ _ h) ?_|refine G8 hcs TT (by omega) (λh' p' c' l1=>?_)|apply T_|exact trivial)<;>conv=>whnf)
  all_goals first|exact⟨gy ((Db hV).trans (by omega)),by first|exact z_ h|assumption⟩|exact⟨dZ ((Db hV).2 (by omega)),by first|exact z_ h|assumption⟩|exact⟨bY (λhx=>by have:=(Db hV).1 hx;omega),by first|exact z_ h|assumption⟩
 ·rw[dD hV]at xJ;refine aj xJ ?_;conv=>whnf
  exact⟨bY λhx=>hV hx.1,z_ h⟩
theorem Ng (M:bM):zf M↔(((M.fin=0\/M.fin=3)/\0 < M.ag.length/\M.out=cU)\/(M.fin=1/\M.ag.length=0)\/(M.fin=2/\M.ag.length=0/\M.out.ref=true/\1<=M.out.n)):=by
 unfold zf;have e1:M.ag≠[]↔0 < M.ag.length:=List.length_pos_iff.symm;have e2:M.ag=[]↔M.ag.length=0:=List.length_eq_zero_iff.symm;rw[e1,e2]
theorem sU {M:bM} {r z:Bool} (hr:M.out.ref=r) (hz:(M.out.ref==false&&M.out.n==0)=z):zf M↔(((M.fin=0\/M.fin=3)/\0 < M.ag.length/\z=true)\/(M.fin=1/\M.ag.length=0)\/(M.fin=2/\M.ag.length=0/\r=true/\1<=M.out.n)):=by
 rw[Ng,<-Nb,hz,hr]
theorem Nh (vo vs:Value) (pf:Option Addr) (cf:Nat) (M:bM) (h:Heap):Pure prog 47 [.agg ⟨ay vo (.slice pf M.ag.length cf) vs M⟩] h (tf (zf M)):=by
 refine jh au func47 F47 abr rfl ?_;unfold ay;have key:∀ b:Bool,(M.out.ref==false&&M.out.n==0)=b->∀ w:World,(Go.binOp .eql 31 (.agg #[.bool M.out.ref,.int .i64 M.out.n]) (.agg #[.bool false,.int .i64 0])).run prog w=.ok (.bool b) w:=λb hb w=>by
  rw[<-hb];exact Na M.out cU w
 cases hb:(M.out.ref==false&&M.out.n==0)<;>cases hr:M.out.ref
 all_goals
  have ve:=key _ hb;rw[hr]at ve;conv=>whnf
  repeat' ((first|apply ax<;>intro _|apply aT<;>intro _|refine iI rfl rfl (λw=>by simp[eqGuard]) ve ?_)<;>conv=>whnf)
  all_goals first|exact⟨dZ ((sU hr hb).2 (by simp only[Bool.true_eq_false,Bool.false_eq_true,and_true,and_false,true_and,false_and,or_false,false_or];omega)),z_ h⟩|exact⟨bY (λhx=>by have:=(sU hr hb).1 hx;simp only[Bool.true_eq_false,Bool.false_eq_true,and_true,and_false,true_and,false_and,or_false,false_or]at this;omega),z_ h⟩|exact⟨gy ((sU hr hb).trans (by simp only[Bool.true_eq_false,Bool.false_eq_true,and_true,and_false,true_and,false_and,or_false,false_or];omega)),z_ h⟩
theorem P4 (vo vs:Value) (pf:Option Addr) (cf:Nat) (M:bM) (h:Heap):Pure prog 102 [.agg ⟨ay vo (.slice pf M.ag.length cf) vs M⟩] h (tf (zf M)):=by
 refine jh au func102 Vs Vt rfl ?_;unfold ay;have key:∀ b:Bool,(M.out.ref==false&&M.out.n==0)=b->∀ w:World,(Go.binOp .eql 31 (.agg #[.bool M.out.ref,.int .i64 M.out.n]) (.agg #[.bool false,.int .i64 0])).run prog w=.ok (.bool b) w:=λb hb w=>by
  rw[<-hb];exact Na M.out cU w
 cases hb:(M.out.ref==false&&M.out.n==0)<;>cases hr:M.out.ref
 all_goals
  have ve:=key _ hb;rw[hr]at ve;conv=>whnf
  repeat' ((first|apply ax<;>intro _|apply aT<;>intro _|refine iI rfl rfl (λw=>by simp[eqGuard]) ve ?_)<;>conv=>whnf)
  all_goals first|exact⟨dZ ((sU hr hb).2 (by simp only[Bool.true_eq_false,Bool.false_eq_true,and_true,and_false,true_and,false_and,or_false,false_or];omega)),z_ h⟩|exact⟨bY (λhx=>by have:=(sU hr hb).1 hx;simp only[Bool.true_eq_false,Bool.false_eq_true,and_true,and_false,true_and,false_and,or_false,false_or]at this;omega),z_ h⟩|exact⟨gy ((sU hr hb).trans (by simp only[Bool.true_eq_false,Bool.false_eq_true,and_true,and_false,true_and,false_and,or_false,false_or];omega)),z_ h⟩
theorem sV {u:aO} {n:Nat} {f:bQ} (hm:0<=f.U/\f.U < u.methods.length):xH u n f↔((0<=f.pc/\f.pc<=(aV u f.U).code.length)/\(f.locals.length:Int)=(aV u f.U).locals/\f.stack.length<=4/\(∀ v∈f.locals,kE n v)/\∀ v∈f.stack,kE n v):=⟨λh=>h.2,λh=>⟨hm,h⟩⟩
theorem Ni {u:aO} {n:Nat} {f:bQ} (hx:¬((0<=f.pc/\f.pc<=(aV u f.U).code.length)/\(f.locals.length:Int)=(aV u f.U).locals/\f.stack.length<=4)):¬xH u n f:=λh=>hx ⟨h.2.1,h.2.2.1,h.2.2.2.1⟩
theorem Dc (us:List Value) (u:aO) (f:bQ) (xs:List Value) (n:Nat) (h:Heap) (hu:dG h us u) (hT:cz u) (ho:tB h xs f):Pure prog 45 [.agg ⟨us⟩,.agg ⟨xs⟩,.int .i64 n] h (tf (xH u n f)):=by
 obtain⟨p,cc,q,d,rfl,hcs,fM,ji,hl2⟩:=hu.form;obtain⟨v1,v2,rfl,JV,Lo⟩:=ho;have k1:=xj v1 f.locals n h JV;have k2:=xj v2 f.stack n h Lo;obtain⟨p1,c1,rfl,R6,AX⟩:=JV.len;obtain⟨p2,c2,rfl,JS,NH⟩:=Lo.len;refine jh au func45 F45 abp rfl ?_;by_cases hm:0<=f.U/\f.U < u.methods.length
 ·obtain⟨b,off,vs,hp,r1,m1⟩:=fM.get (i:=f.U.toNat) (by omega);have em:u.methods[f.U.toNat]'(by omega)=aV u f.U:=by unfold aV;rw[S_,w_ (by omega)];rfl
  rw[em]at m1;obtain⟨_,_,_,_,rfl,_,_,_,_,_,w6,_,_⟩:=m1;obtain⟨_,_,rfl,_,_⟩:=w6.len;have ra:=aE r1 (i:=4) rfl;have rb:=aE r1 (i:=5) rfl;conv=>whnf
  repeat' ((first|apply ax<;>intro _|refine aG hp ?_|refine aq ?_|refine ld rb ?_|refine ld ra ?_|refine ah ?_|refine aK (dP _ _ _ h) ?_|apply T_|exact trivial)<;>conv=>whnf)
  all_goals try first|exact⟨bY (Ni (by omega)),z_ h⟩|(exfalso;omega)
  by_cases cA:∀ v∈f.locals,kE n v
  ·rw[fk cA]at k1;refine aK k1 ?_;conv=>whnf
   by_cases cB:∀ v∈f.stack,kE n v
   ·rw[fk cB]at k2;refine aK k2 ?_;conv=>whnf
    exact⟨dZ ((sV hm).2 ⟨by omega,by omega,by omega,cA,cB⟩),z_ h⟩
   ·rw[dD cB]at k2;refine aK k2 ?_;conv=>whnf
    exact⟨bY (λhx=>cB ((sV hm).1 hx).2.2.2.2),z_ h⟩
  ·rw[dD cA]at k1;refine aK k1 ?_;conv=>whnf
   exact⟨bY (λhx=>cA ((sV hm).1 hx).2.2.2.1),z_ h⟩
 ·conv=>whnf
  repeat' ((first|apply ax<;>intro _|apply aT<;>intro _|refine ah ?_|refine aK (dP _ _ _ h) ?_|apply T_|exact trivial)<;>conv=>whnf)
  all_goals first|exact⟨bY (λhx=>hm hx.1),z_ h⟩|(exfalso;omega)
end Go.Proofs
