/- Lemmas. -/
import Derived.Test.YthkgbjpkklkppaaGreatDoorChecked
import Derived.WalkKit
import Derived.LaidEql
import Derived.Stop.Asserts
import Derived.RowKitTokens
import Derived.Test.YthkgbjpkklkppaaGreatDoorMb6
set_option linter.unusedSimpArgs false
set_option linter.unusedVariables false
namespace Go.Proofs
open Go.Vc Go.Proofs.Tryz
set_option maxRecDepth 100000
set_option maxHeartbeats 4000000
def C1 (k:Int) (A:List cz):Prop:=∀ s∈A,s.told=true->(s.locals.length:Int)=k
theorem m9.TK {n:Nat} {k:Int} {A:List cz} (h:m9 n k A) (c:0<=k):C1 k A:=λs a b=>by
 have:=(h s a b).loc;omega
structure lq (h:Heap) (b:Nat) (rec:List Value) (m:bT):Prop where
 ex:∃ a c s k,rec=[.int .i64 m.cls,.int .i64 m.eu,a,.int .i64 m.out,.int .i64 m.locals,c,s,k]/\cy m.cls/\cy m.eu/\cy m.out/\cy m.locals /\
  (nY (aV h b) a m.args/\m.args.length<=100)/\Row 3 yg h c m.code/\Row 3 gR h s m.aF/\Row 4 zZ h k m.catches /\
  ∀ p n cc,s=.slice p n cc->n=0\/∃ bs off,p=some ⟨bs,off,none⟩/\bs≠b
theorem lq.Vy {h:Heap} {b:Nat} {a:List Value} {m:bT} (o:lq h b a m):dz h a m:=by
 obtain⟨c,d,u,k,e,p,q,s,t,f,g,i,j,_⟩:=o.ex;exact⟨c,d,u,k,e,p,q,s,t,(f.1.ints O).le (fk h b),g,i,j⟩
theorem lq.le {h d:Heap} {b:Nat} {f:List Value} {m:bT} (a:h.le d) (t:lq h b f m):lq d b f m:=by
 obtain⟨g,i,y,k,j,u,v,w,x,e,o,p,q,s⟩:=t.ex;exact⟨g,i,y,k,j,u,v,w,x,⟨e.1.le (bQ b a),e.2⟩,o.le a (λ_ _ c=>c),p.le a (λ_ _ c=>c.le a),q.le a (λ_ _ c=>c),s⟩
structure AS (m m':bT):Prop where
 cls:m'.cls=m.cls
 eu:m'.eu=m.eu
 out:m'.out=m.out
 locals:m'.locals=m.locals
 code:m'.code.length=m.code.length
 aF:m'.aF.length=m.aF.length
 catches:m'.catches.length=m.catches.length
 TL:∀ k,C1 k m.aF->C1 k m'.aF
def N0 (s a:cz):Prop:=a.told=s.told/\a.locals.length=s.locals.length
theorem zi {j b:Heap} (q:uj j b) {p:Option Addr} {n c:Nat} {l:List cz} (A:Row 3 gR j (.slice p n c) l) (m:n=0\/∃ f off,p=some ⟨f,off,none⟩/\b f=j f) :
  ∃ d,Row 3 gR b (.slice p n c) d/\d.length=l.length/\∀ k,C1 k l->C1 k d:=by
 obtain⟨N,V,M,e,P,w⟩:=A;simp only[Z_]at e;obtain⟨rfl,rfl,rfl⟩:=e;rcases w with rfl|⟨s,off,rfl,D⟩
 ·exact⟨[],⟨Z,p,c,rfl,Z,.inl rfl⟩,rfl,λk h=>h⟩
 rcases m with m|⟨f,T,e,y⟩
 ·have:l=[]:=List.eq_nil_of_length_eq_zero m;subst this;exact⟨[],⟨Z,_,c,rfl,Z,.inl rfl⟩,rfl,λk h=>h⟩
 simp only[v_,Addr.mk.injEq,and_true]at e;obtain⟨rfl,rfl⟩:=e;obtain⟨d,t,u⟩:=ic (Q:=λi (x:cz)=>∀ h:i < l.length,N0 l[i] x/\∃ o,dP b s (off+i*3) 3=some o/\gR b o x) l.length (λi a=>by
  obtain⟨o,v,R,S,rfl,E,F⟩:=D i l[i] (by simp[a]);obtain⟨I,G,K⟩:=gP q E;obtain⟨J,H,_⟩:=gP q F;exact⟨⟨l[i].told,I,J⟩,λ_=>⟨⟨rfl,K⟩,_,by rw[tL y];exact v,_,_,rfl,G,H⟩⟩)
 refine⟨d,⟨O,_,c,by rw[t],O,.inr ⟨s,off,rfl,λi x a=>?_⟩⟩,t,λk z L B C=>?_⟩
 ·have g:i < l.length:=by have:=(List.getElem?_eq_some_iff.1 a).1;omega
  exact(u i x a g).2
 obtain⟨i,a⟩:=List.getElem?_of_mem B;have g:i < l.length:=by have:=(List.getElem?_eq_some_iff.1 a).1;omega
 have:=(u i L a g).1;rw[this.2];exact z _ (x_ g) (by rw[<-this.1];exact C)
theorem lq.over {h a:Heap} {b:Nat} {o:List Value} {m:bT} (A:lq h b o m) (c:uj h a) (j:∀ x,x≠b->a x=h x):∃ e,lq a b o e/\AS m e/\e.args=m.args:=by
 obtain⟨p,q,T,k,s,B,C,D,E,v,w,g,y,i⟩:=A.ex;have z:aV a b=aV h b:=by
  funext x
  unfold aV;by_cases d:x=b
  ·simp[d]
  simp[d,j x d]
 obtain⟨F,M,I⟩:=j5 (xo c) w;obtain⟨H,P,K⟩:=j5 (xp c) y;obtain⟨S,R,rfl,_,_⟩:=g.len;obtain⟨G,N,J,Q⟩:=zi c g ((i _ _ _ rfl).imp id λ⟨f,L,t,u⟩=>⟨f,L,t,j f u⟩);exact⟨⟨m.cls,m.eu,m.args,m.out,m.locals,F,G,H⟩,⟨p,q,_,k,s,B,C,D,E,by rw[z];exact v,M,N,P,i⟩,⟨rfl,rfl,rfl,rfl,I,J,K,Q⟩,rfl⟩
structure rA (h:Heap) (b c:Nat) (recs:List (List Value)) (A:List bT):Prop where
 own:bY 8 h (.slice (some ⟨b,0,none⟩) A.length c) recs [b]
 len:recs.length=A.length
 each:∀ i (h1:i < recs.length) (h2:i < A.length),lq h b recs[i] A[i]
theorem rA.le {h a:Heap} {b c:Nat} {recs:List (List Value)} {A:List bT} (r:rA h b c recs A) (d:h.le a):rA a b c recs A :=
 ⟨r.own.aK (cS.of_le d _),r.len,λi e f=>(r.each i e f).le d⟩
theorem rA.oA {h:Heap} {b c:Nat} {recs:List (List Value)} {A:List bT} (r:rA h b c recs A) (z:A.length<=1000):Row 8 dz h (.slice (some ⟨b,0,none⟩) A.length c) A:=by
 obtain⟨j,⟨a,_⟩|⟨v,w,rest,C,a,x,f,g,_⟩⟩:=r.own
 ·cases a
 simp only[Z_,v_,Addr.mk.injEq]at a;obtain⟨⟨rfl,_⟩,B,rfl⟩:=a;refine⟨O,_,_,rfl,O,.inr ⟨b,0,rfl,λi D p=>?_⟩⟩;obtain⟨e,rfl⟩:=List.getElem?_eq_some_iff.1 p;have d:i < recs.length:=by rw[r.len];exact e
 refine⟨recs[i],?_,(r.each i d e).Vy⟩;have q:(recs.take i).flatten.length=i*8:=by
  rw[cE (sz:=8)]
  ·rw[List.length_take,Nat.min_eq_left O]
  intro y u;exact j y (List.mem_of_mem_take u)
 have s:recs.flatten++rest=(recs.take i).flatten++(recs[i]++((recs.drop (i+1)).flatten++rest)):=by
  have m:recs=recs.take i++recs[i]::recs.drop (i+1):=by rw[<-List.drop_eq_getElem_cons d,List.take_append_drop]
  have o:=congrArg List.flatten m;rw[o];simp only[List.flatten_append,List.flatten_cons,List.append_assoc]
 have t:recs[i].length=8:=j _ (x_ _);rw[s]at f g;rw[bA f 8 (0+i*8) (by simp only[U_]at g ⊢;omega),Nat.zero_add,<-q,List.drop_left,<-t,List.take_left]
theorem rA.at {h:Heap} {b c:Nat} {recs:List (List Value)} {A:List bT} (r:rA h b c recs A) {i:Nat} (j:i < A.length) :
  ∃ d:i < recs.length,dP h b (0+i*8) 8=some recs[i]/\lq h b recs[i] A[i]/\∃ pre post t,h b=some (.cells (pre++recs[i]++post).toArray t (0,0))/\pre.length=i*8 /\
   ∀ a e,a.length=8->e b=some (.cells (pre++a++post).toArray t (0,0))->bY 8 e (.slice (some ⟨b,0,none⟩) A.length c) (recs.set i a) [b]:=by
 have d:i < recs.length:=by rw[r.len];exact j
 have s:recs=recs.take i++recs[i]::recs.drop (i+1):=by rw[<-List.drop_eq_getElem_cons d,List.take_append_drop]
 have u:bY 8 h (.slice (some ⟨b,0,none⟩) A.length c) (recs.take i++recs[i]::recs.drop (i+1)) [b]:=by rw[<-s];exact r.own
 obtain⟨z,B,pre,post,y,m,g,v,o,C,x⟩:=u.at;simp only[Z_,v_,Addr.mk.injEq]at m;obtain⟨⟨rfl,_⟩,_,rfl⟩:=m;have f:pre.length=i*8:=by rw[v,List.length_take,Nat.min_eq_left O]
 refine⟨d,?_,r.each i d j,pre,post,y,g,f,λa e q p=>?_⟩
 ·rw[bA g 8 (0+i*8) (by simp[f,o])];rw[List.append_assoc,Nat.zero_add,<-f,List.drop_left,List.take_left' o]
 have w:recs.set i a=recs.take i++a::recs.drop (i+1):=by rw[List.set_eq_take_append_cons_drop,if_pos d]
 rw[w];exact x e a p q
def zj (i:List Value):Prop:=∃(e f g h:Int) (a b c d:Value),i=[.int .i64 e,.int .i64 f,a,.int .i64 g,.int .i64 h,b,c,d]/\cy e/\cy f/\cy g/\cy h/\(∀ x,a≠.int .i64 x)/\(∀ x,b≠.int .i64 x)/\(∀ x,c≠.int .i64 x)/\∀ x,d≠.int .i64 x
theorem lq.AT {h:Heap} {b:Nat} {a:List Value} {m:bT} (i:lq h b a m):zj a:=by
 obtain⟨s,t,u,k,e,j,o,p,q,c,d,f,g,_⟩:=i.ex;obtain⟨_,_,rfl⟩:=c.1.form;obtain⟨_,_,rfl,_⟩:=d.len;obtain⟨_,_,rfl,_⟩:=f.len;obtain⟨_,_,rfl,_⟩:=g.len;exact⟨_,_,_,_,_,_,_,_,e,j,o,p,q,(λx h=>nomatch h),(λx h=>nomatch h),(λx h=>nomatch h),(λx h=>nomatch h)⟩
theorem qt {g:Heap} {b:Nat} {pre post D E:List Value} {t:TypeId} (w:g b=some (.cells (pre++D++post).toArray t (0,0))) (F:zj D) (G:zj E):uj g (g.set b (.cells (pre++E++post).toArray t (0,0))):=by
 obtain⟨X,Y,x3,x4,S,T,V,W,rfl,_,_,_,_,N,P,Q,R⟩:=F;obtain⟨d,e,f,h,p,q,s,u,rfl,J,K,L,M,_⟩:=G;intro c m x a y;by_cases B:c=b
 ·subst B;have z:(g.set c (.cells (pre++[Value.int .i64 d,.int .i64 e,p,.int .i64 f,.int .i64 h,q,s,u]++post).toArray t (0,0))) c=some (.cells (pre++[Value.int .i64 d,.int .i64 e,p,.int .i64 f,.int .i64 h,q,s,u]++post).toArray t (0,0)):=cY _ _ _;by_cases C:m < pre.length
  ·refine⟨x,?_,y⟩;simp only[rd,w,List.getElem?_toArray]at a;rw[List.append_assoc,List.getElem?_append_left C]at a;simp only[rd,z,List.getElem?_toArray];rw[List.append_assoc,List.getElem?_append_left C];exact a
  by_cases e2:m < pre.length+8
  ·have I:∃ j,m=pre.length+j/\j < 8:=⟨m-pre.length,O,O⟩
   obtain⟨j,rfl,hj⟩:=I;have o:∀ i v,[Value.int .i64 X,.int .i64 Y,S,.int .i64 x3,.int .i64 x4,T,V,W][i]? = some v->rd g c (pre.length+i)=some v:=λi v A=>cX w rfl A;have same:∀ i v,[Value.int .i64 d,.int .i64 e,p,.int .i64 f,.int .i64 h,q,s,u][i]? = some v->rd (g.set c (.cells (pre++[Value.int .i64 d,.int .i64 e,p,.int .i64 f,.int .i64 h,q,s,u]++post).toArray t (0,0))) c (pre.length+i)=some v:=λi v A=>cX z rfl A;have H:j=0\/j=1\/j=2\/j=3\/j=4\/j=5\/j=6\/j=7:=by omega
   rcases H with rfl|rfl|rfl|rfl|rfl|rfl|rfl|rfl
   ·exact⟨d,same 0 _ rfl,J⟩
   ·exact⟨e,same 1 _ rfl,K⟩
   ·rw[o 2 _ rfl]at a;exact absurd (Option.some.inj a) (N x)
   ·exact⟨f,same 3 _ rfl,L⟩
   ·exact⟨h,same 4 _ rfl,M⟩
   ·rw[o 5 _ rfl]at a;exact absurd (Option.some.inj a) (P x)
   ·rw[o 6 _ rfl]at a;exact absurd (Option.some.inj a) (Q x)
   rw[o 7 _ rfl]at a;exact absurd (Option.some.inj a) (R x)
  refine⟨x,?_,y⟩;simp only[rd,w,List.getElem?_toArray]at a;simp only[rd,z,List.getElem?_toArray];rw[List.getElem?_append_right (by simp;omega)]at a ⊢;simpa using a
 exact⟨x,by rw[tB B];exact a,y⟩
theorem rA.put {h:Heap} {b c:Nat} {recs:List (List Value)} {A:List bT} (r:rA h b c recs A) {i:Nat} (H:i < A.length) {a:List Value} {v:bT} {pre post:List Value} {t:TypeId} (K:i < recs.length) (G:h b=some (.cells (pre++recs[i]++post).toArray t (0,0)))
  (N:∀ a w,a.length=8->w b=some (.cells (pre++a++post).toArray t (0,0))->bY 8 w (.slice (some ⟨b,0,none⟩) A.length c) (recs.set i a) [b]) (s:lq h b a v) :
  ∃ d g,rA (h.set b (.cells (pre++a++post).toArray t (0,0))) b c (recs.set i a) d/\d.length=A.length/\(∀ j (f:j < A.length) (m:j < d.length),j≠i->AS A[j] d[j]/\d[j].args=A[j].args)/\(∀ m:i < d.length,d[i]=g)/\AS v g/\g.args=v.args:=by
 have y:=qt G (r.each i K H).AT s.AT;have B:∀ x,x≠b->(h.set b (.cells (pre++a++post).toArray t (0,0))) x=h x:=λx L=>by simp[Heap.set,L]
 have I:a.length=8:=by obtain⟨_,_,_,_,_,_,_,_,o,_⟩:=s.AT;rw[o];rfl
 obtain⟨g,f2,M,D⟩:=s.over y B;have J:∀ j,j < A.length->∃ e,(∀ f:j < (recs.set i a).length,lq (h.set b (.cells (pre++a++post).toArray t (0,0))) b (recs.set i a)[j] e)/\(∀ f:j < A.length,j≠i->AS A[j] e/\e.args=A[j].args)/\(j=i->e=g):=by
  intro j z;by_cases o:j=i
  ·subst o;exact⟨g,λf=>by simpa using f2,λ_ u=>absurd rfl u,λ_=>rfl⟩
  obtain⟨e,F,k,C⟩:=(r.each j (by rw[r.len];exact z) z).over y B;refine⟨e,λf=>?_,λ_ _=>⟨k,C⟩,λh=>absurd h o⟩;rw[List.getElem_set_ne (λE=>o E.symm)];exact F
 obtain⟨d,p,q⟩:=ic (Q:=λj e=>(∀ f:j < (recs.set i a).length,lq (h.set b (.cells (pre++a++post).toArray t (0,0))) b (recs.set i a)[j] e)/\(∀ f:j < A.length,j≠i->AS A[j] e/\e.args=A[j].args)/\(j=i->e=g)) A.length J;refine⟨d,g,⟨?_,by rw[List.length_set,p];exact r.len,λj f m=>(q j d[j] (by simp[m])).1 f⟩,p,λj f m u=>(q j d[j] (by simp[m])).2.1 f u,λm=>(q i d[i] (by simp[m])).2.2 rfl,M,D⟩;rw[p];exact N a _ I (cY _ _ _)
def Pc (g0:Heap):Prop:=∀(b:Nat) (a:Array Value) (t:TypeId) (z:Nat × Nat),g0 b=some (Obj.cells a t z)->∃(i:Nat) (x:Int),a[i]? = some (.int .u8 x)
theorem nY.since {g0 h:Heap} {b:Nat} {a:Value} {l:List Int} (o:Pc g0) (q:g0.le h) (g:nY (aV h b) a l):nY (aV (Go.Proofs.since g0 h) b) a l:=by
 obtain⟨B,g⟩:=g;rcases g with ⟨rfl,rfl,rfl⟩|⟨c,r,t,rfl,e,p,rfl⟩
 ·exact⟨[],.inl ⟨rfl,rfl,rfl⟩⟩
 refine⟨[c],.inr ⟨c,r,t,rfl,?_,p,rfl⟩⟩;have j:c≠b:=by
  rintro rfl;simp[aV]at e
 have i:h c=some (.cells ((l++r).map (Value.int .i64)).toArray t (0,0)):=by
  unfold aV at e;rw[if_neg j]at e;exact e
 have s:g0 c=none:=by
  cases f:g0 c with
  | none=>rfl
  | some v =>
   have:=q _ _ f;rw[i]at this;rw[<-Option.some.inj this]at f;obtain⟨u,x,d⟩:=o _ _ _ _ f;simp only[List.getElem?_toArray,List.getElem?_map]at d;cases m:(l++r)[u]? with
   | none=>rw[m]at d;cases d
   | some y=>rw[m]at d;simp at d
 unfold aV;rw[if_neg j,ef s];exact i
theorem FC {h:Heap} {v:Value} {cs:List dB} {B:List Nat} (d:ep kY 2 h v cs B) (ok:bX cs):eP h v cs:=by
 refine d.row (by have:=ok.2.1;omega) λx j C b a=>?_;obtain⟨i,c,rfl⟩:=List.mem_iff_getElem.1 b;obtain⟨w,rfl,o⟩:=a;obtain⟨f1,f2,f3,f4,f5⟩:=ok.2.2 i c;have m:=ok.2.1;have f:cy cs[i].bJ:=by
  unfold cy;have:i=0\/i=1\/1 < i:=by omega
  rcases this with e|e|e
  ·have:=f2 e;omega
  ·have:=f3 e;omega
  have:=f4 e;omega
 refine⟨w,rfl,f,bY.xq o O λt g=>⟨rfl,?_⟩⟩;have:=f1 t g;unfold bL at this;unfold cy;omega
structure C2 (h:Heap) (bm:Nat) (n:Nat) (whole:Bool) (rec:List Value) (m:bT):Prop where
 head:eC n m
 hd:whole=false->∃ a,rec=dV m.cls m.eu a m.out m.locals/\m.code=[]/\m.aF=[]/\m.catches=[]
 wh:whole=true->(1<=m.code.length/\m.code.length<=12)/\m.aF.length=m.code.length/\C1 m.locals m.aF /\
  ∃ a bc cc bs cs kv,rec=[.int .i64 m.cls,.int .i64 m.eu,a,.int .i64 m.out,.int .i64 m.locals,.slice (some ⟨bc,0,none⟩) m.code.length cc,.slice (some ⟨bs,0,none⟩) m.aF.length cs,kv]/\(bc≠bm/\bs≠bm) /\
   ((kv=.slice none 0 0/\m.catches=[])\/∃ bk,kv=.slice (some ⟨bk,0,none⟩) 1 1/\m.catches.length=1)
theorem AS.mid {h:Heap} {bm n:Nat} {whole:Bool} {i:List Value} {m g:bT} (k:AS m g) (y:g.args=m.args) (d:C2 h bm n whole i m):C2 h bm n whole i g:=by
 refine⟨?_,λf=>?_,λf=>?_⟩
 ·have:=d.head;unfold eC br at this ⊢;rw[k.cls,k.eu,k.out,k.locals,y];exact this
 ·obtain⟨a,e,b,c,s⟩:=d.hd f;refine⟨a,by rw[k.cls,k.eu,k.out,k.locals];exact e,List.eq_nil_of_length_eq_zero (by rw[k.code,b];rfl),List.eq_nil_of_length_eq_zero (by rw[k.aF,c];rfl),List.eq_nil_of_length_eq_zero (by rw[k.catches,s];rfl)⟩
 obtain⟨t,u,v,a,A,p,o,q,z,e,w,x⟩:=d.wh f;refine⟨by rw[k.code];exact t,by rw[k.code,k.aF];exact u,by rw[k.locals];exact k.TL _ v,a,A,p,o,q,z,by rw[k.cls,k.eu,k.out,k.locals,k.code,k.aF];exact e,w,x.imp (λh=>⟨h.1,List.eq_nil_of_length_eq_zero (by rw[k.catches,h.2];rfl)⟩) λ⟨j,b,c⟩=>⟨j,b,by rw[k.catches];exact c⟩⟩
def lu (ok:List dc->Prop) (h:Heap) (b n:Nat):Prop:=∃ a:List dc,a.length=n/\ok a/\∀ i (c:i < a.length),dP h b (0+i*3) 3=some (cK a[i])
abbrev I7:=lu Kd
theorem lu.le {ok:List dc->Prop} {h b:Heap} {a n:Nat} (f:h.le b) (c:lu ok h a n):lu ok b a n:=by
 obtain⟨j,e,k,g⟩:=c;exact⟨j,e,k,λi d=>dD f (g i d)⟩
theorem lu.FD {ok:List dc->Prop} {h b:Heap} {a n:Nat} (f:b a=h a) (c:lu ok h a n):lu ok b a n:=by
 obtain⟨j,e,k,g⟩:=c;exact⟨j,e,k,λi d=>by rw[tL f];exact g i d⟩
def TM (v:Value) (a:Nat):Prop:=∀ b o n c,v=.slice (some ⟨b,o,none⟩) n c->b≠a
def N1 (i a:Nat) (b:List Value):Prop:=(∀ v,b[2]? = some v->TM v a)/\(0 < i->∀ v,b[5]? = some v->TM v a)/\∀ v,b[6]? = some v->TM v a
def ei (ok:List dc->Prop) (h:Heap) (bm:Nat) (recs:List (List Value)):Prop:=∃ a n c,(∃ r,recs[0]? = some r/\r[5]? = some (.slice (some ⟨a,0,none⟩) n c))/\a≠bm/\lu ok h a n/\∀ i r,recs[i]? = some r->N1 i a r
abbrev zk:=ei Kd
structure nP (g0 g:Heap) (cp:Option Addr) (cc:Nat) (cs:List dB) (bm cm:Nat) (recs:List (List Value)) (A:List bT) (k:Nat):Prop where
 cls:eP (aV (since g0 g) bm) (.slice cp cs.length cc) cs
 ok:bX cs
 row:rA (since g0 g) bm cm recs A
 num:1<=A.length/\A.length<=4
 mid:∀ i (h1:i < recs.length) (h2:i < A.length),C2 (since g0 g) bm cs.length (decide (i < k)) recs[i] A[i]
 fst:0 < k->zk (since g0 g) bm recs
 Pd:∀ m∈A,m.cls≠0
theorem ei.le {ok:List dc->Prop} {h a:Heap} {bm:Nat} {recs:List (List Value)} (i:h.le a) (f:ei ok h bm recs):ei ok a bm recs:=by
 obtain⟨b,n,c,e,j,g,d⟩:=f;exact⟨b,n,c,e,j,g.le i,d⟩
theorem nP.aK {g0 g h:Heap} {f:Option Addr} {d:Nat} {cs:List dB} {bm e:Nat} {recs:List (List Value)} {A:List bT} {k:Nat} (u:nP g0 g f d cs bm e recs A k) (a:g.le h):nP g0 h f d cs bm e recs A k :=
 ⟨u.cls.le (bQ _ (bI g0 a)) (λ_ _ m=>m.le (bQ _ (bI g0 a))),u.ok,u.row.le (bI g0 a),u.num,λi b c=>⟨(u.mid i b c).head,(u.mid i b c).hd,(u.mid i b c).wh⟩,λj=>ei.le (bI g0 a) (u.fst j),u.Pd⟩
theorem nP.FE {g0 g:Heap} {c:Option Addr} {a:Nat} {cs:List dB} {bm b:Nat} {recs:List (List Value)} {A:List bT} {k:Nat} (u:nP g0 g c a cs bm b recs A k):dn (since g0 g) [.slice c cs.length a,.slice (some ⟨bm,0,none⟩) A.length b] ⟨cs,A⟩ :=
 ⟨_,_,rfl,u.cls.le (fk _ _) (λ_ _ d=>d.le (fk _ _)),u.row.oA (by have:=u.num;omega)⟩
theorem nP.N2 {g0 g:Heap} {d:Option Addr} {b:Nat} {cs:List dB} {bm c:Nat} {recs:List (List Value)} {A:List bT} {k:Nat} (u:nP g0 g d b cs bm c recs A k):AE ⟨cs,A⟩:=by
 refine⟨u.ok,λm e=>?_⟩;obtain⟨i,a,rfl⟩:=List.mem_iff_getElem.1 e;have:=(u.mid i (by rw[u.row.len];exact a) a).head;have f:=this.2.1;exact⟨by show A[i].args.length<=3;omega,this.2.2.2.1,this.2.2.1⟩
theorem nP.fresh {g0 g:Heap} {c:Option Addr} {a:Nat} {cs:List dB} {bm b:Nat} {recs:List (List Value)} {A:List bT} {k:Nat} (u:nP g0 g c a cs bm b recs A k):g0 bm=none/\∃ o,g bm=some o:=by
 obtain⟨o,f⟩:=u.row.own.in bm Z;obtain⟨d,e⟩:=dU f;exact⟨d,o,e⟩
theorem ei.FD {ok:List dc->Prop} {h b:Heap} {bm:Nat} {recs:List (List Value)} (f:ei ok h bm recs) (j:∀ x,x≠bm->b x=h x):ei ok b bm recs:=by
 obtain⟨a,n,d,e,c,i,g⟩:=f;exact⟨a,n,d,e,c,i.FD (j a c),g⟩
theorem BU {h:Heap} {a n:Nat} (b:I7 h a n):∃ x:Int,rd h a 0=some (.int .i64 x):=by
 obtain⟨g,e,d,c⟩:=b;obtain⟨f,y,rfl,_⟩:=d;exact⟨_,aJ (c 0 Z) (i:=0) rfl⟩
theorem FF {h G:Heap} {u:aI} {m y:bT} {a:Value} {E:List Value} {bm k:Nat} {recs:List (List Value)} (X:h.le G) (made:zf h G u m a E y) (T:∃ o,h bm=some o) (q:k < recs.length) (F:∀ r:List Value,recs[k]? = some r->r[2]? = some a)
  (H:∀(i:Nat) (r:List Value) (v:Value),recs[i]? = some r->r[2]? = some v->∀ b o n c,v=.slice (some ⟨b,o,none⟩) n c->∃ C,h b=some C) (h0:k=0->∀(i:Nat) (r:List Value),recs[i]? = some r->r[5]? = some (Value.slice none 0 0)/\r[6]? = some (Value.slice none 0 0)) (W:0 < k->zk h bm recs):zk G bm (recs.set k E):=by
 obtain⟨D,kc,bs,ks,kv,s,t,LK⟩:=made.form.form;have R:=H k _ a (w_ q) (F _ (w_ q));have uD:D≠bm:=by
  rintro rfl;obtain⟨o,f⟩:=T;rw[t.1]at f;cases f
 obtain⟨a0,c0,s0,k0,N,_,_,_,_,w1,w2,w3,_⟩:=made.read;have A:=N;rw[s]at A;simp only[List.cons.injEq,and_true,true_and]at A;obtain⟨rfl,rfl,rfl,rfl⟩:=A;have M:=made.kd;have K:I7 G D y.code.length:=⟨y.code,rfl,M,λi p=>by
  obtain⟨b,off,vs,w,e,d⟩:=w2.get p;simp only[v_,Addr.mk.injEq,and_true]at w;obtain⟨rfl,rfl⟩:=w;obtain⟨rfl,_⟩:=d;exact e⟩
 have Kg:0 < y.code.length:=by obtain⟨init,ab,s,_⟩:=M;rw[s];simp
 by_cases L:k=0
 ·subst L;refine⟨D,_,kc,⟨E,by simp[q],by rw[s];rfl⟩,uD,K,λi r e=>?_⟩;by_cases p:i=0
  ·subst p;rw[List.getElem?_set_self q]at e;simp only[v_]at e;subst e;rw[s];refine⟨λv d=>?_,λj=>absurd j O,λv d=>?_⟩
   ·simp only[List.getElem?_cons_succ,List.getElem?_cons_zero,v_]at d;subst d;rintro b o n c rfl rfl;obtain⟨C,f⟩:=R _ _ _ _ rfl;rw[t.1]at f;cases f
   simp only[List.getElem?_cons_succ,List.getElem?_cons_zero,v_]at d;subst d;rintro b o n c g rfl;simp only[Z_,v_,Addr.mk.injEq]at g;obtain⟨⟨rfl,_⟩,_⟩:=g;obtain⟨aa,B⟩:=BU K;obtain⟨b,off,vs,w,e,d⟩:=w3.get (i:=0) (by rw[made.ms.num];exact Kg);simp only[v_,Addr.mk.injEq,and_true]at w;obtain⟨rfl,rfl⟩:=w;obtain⟨l1,l2,rfl,_⟩:=d;have:=aJ e (i:=0) rfl;simp only[Nat.zero_mul,Nat.add_zero]at this;rw[B]at this;cases this
  rw[List.getElem?_set_ne (λj=>p j.symm)]at e;obtain⟨q5,q6⟩:=h0 rfl i r e;refine⟨λv d=>?_,λ_ v d=>?_,λv d=>?_⟩
  ·rintro b o n c rfl rfl;obtain⟨C,f⟩:=H i r _ e d _ _ _ _ rfl;rw[t.1]at f;cases f
  ·rw[q5]at d;simp only[v_]at d;subst d;rintro b o n c j;cases j
  rw[q6]at d;simp only[v_]at d;subst d;rintro b o n c j;cases j
 obtain⟨z,n,c,⟨r,P,Q⟩,Y,J,I⟩:=W O;refine⟨z,n,c,⟨r,by rw[List.getElem?_set_ne L];exact P,Q⟩,Y,lu.le X J,λi r' e=>?_⟩;by_cases p:k=i
 ·subst p;rw[List.getElem?_set_self q]at e;simp only[v_]at e;subst e;obtain⟨aa,B⟩:=BU J;have V:∃ o,h z=some o:=by
   cases S:h z with
   | none=>simp[rd,S]at B
   | some o=>exact⟨o,rfl⟩
  obtain⟨ob,x⟩:=V;rw[s];refine⟨λv d=>?_,λ_ v d=>?_,λv d=>?_⟩
  ·simp only[List.getElem?_cons_succ,List.getElem?_cons_zero,v_]at d;subst d;exact(I k _ (w_ q)).1 _ (F _ (w_ q))
  ·simp only[List.getElem?_cons_succ,List.getElem?_cons_zero,v_]at d;subst d;rintro b o n c g rfl;simp only[Z_,v_,Addr.mk.injEq]at g;obtain⟨⟨rfl,_⟩,_⟩:=g;rw[t.1]at x;cases x
  simp only[List.getElem?_cons_succ,List.getElem?_cons_zero,v_]at d;subst d;rintro b o n c g rfl;simp only[Z_,v_,Addr.mk.injEq]at g;obtain⟨⟨rfl,_⟩,_⟩:=g;rw[t.2]at x;cases x
 rw[List.getElem?_set_ne p]at e;exact I i r' e
theorem nP.put {g0 g:Heap} {v:Option Addr} {q:Nat} {cs:List dB} {bm s:Nat} {recs:List (List Value)} {A:List bT} {k:Nat} (u:nP g0 g v q cs bm s recs A k) (z:k < A.length) {a:List Value} {p:bT} (c:lq (since g0 g) bm a p) (L:C2 (since g0 g) bm cs.length true a p) (M:zk (since g0 g) bm (recs.set k a)) (P:p.cls≠0) :
  ∃ m:k < recs.length,∃ pre post t,g bm=some (.cells (pre++recs[k]++post).toArray t (0,0))/\pre.length=k*8/\a.length=8/\recs[k].length=8 /\
   ∃ N3 b,nP g0 (g.set bm (.cells (pre++a++post).toArray t (0,0))) v q cs bm s N3 b (k+1)/\b.length=A.length:=by
 obtain⟨m,_,Q,pre,post,t,y,T,Y⟩:=u.row.at z;obtain⟨I,_⟩:=u.fresh;obtain⟨b,m2,X,d,D,E,C,F⟩:=u.row.put z m y Y c;have N:g bm=some (.cells (pre++recs[k]++post).toArray t (0,0)):=(dU y).2;have R:a.length=8:=by obtain⟨_,_,_,_,_,_,_,_,e,_⟩:=c.AT;rw[e];rfl
 have S:recs[k].length=8:=by obtain⟨_,_,_,_,_,_,_,_,e,_⟩:=Q.AT;rw[e];rfl
 have o:since g0 (g.set bm (.cells (pre++a++post).toArray t (0,0)))=(since g0 g).set bm (.cells (pre++a++post).toArray t (0,0)):=fU I;refine⟨m,pre,post,t,N,T,R,S,recs.set k a,b,⟨?_,u.ok,by rw[o];exact X,by rw[d];exact u.num,λi J f=>?_,λ_=>?_,λab c=>?_⟩,d⟩
 ·rw[o,tZ];exact u.cls
 ·have x:i < A.length:=by rw[<-d];exact f
  have K:i < recs.length:=by simpa using J
  by_cases e:i=k
  ·subst e;rw[E f];have:=C.mid F L;have h:decide (i < i+1)=true:=by simp
   rw[h];simp only[List.getElem_set_self];exact⟨this.head,this.hd,this.wh⟩
  obtain⟨W,G⟩:=D i x f e;have:=W.mid G (u.mid i K x);have h:decide (i < k+1)=decide (i < k):=by
   by_cases w:i < k
   ·simp[w];omega
   simp[w];omega
  rw[h,List.getElem_set_ne (λH=>e H.symm)];exact⟨this.head,this.hd,this.wh⟩
 ·rw[o];exact ei.FD M λad V=>by simp[Heap.set,V]
 obtain⟨B,j,rfl⟩:=List.mem_iff_getElem.1 c;by_cases e:B=k
 ·subst e;rw[E j,C.cls];exact P
 rw[(D B (by rw[<-d];exact j) j e).1.cls];exact u.Pd _ (x_ _)
theorem AU {pre x y post:List Value} {n:Nat} (b:n=pre.length) (a:y.length=x.length):eH (pre++x++post) n y=pre++y++post:=by
 subst b;rw[List.append_assoc,fE y pre (x++post) (by simp;omega),a,List.drop_left]
theorem FG {g G:Heap} {u:aI} {m c:bT} {a:Value} {f:List Value} {bm n:Nat} (made:zf g G u m a f c) (y:nY (aV G bm) a m.args) (x:m.args.length<=100) (q:∃ o,g bm=some o) (p:eC n m):lq G bm f c/\C2 G bm n true f c:=by
 obtain⟨w,H,d,I,J,i,s,z⟩:=made.form.form;have t:d≠bm:=by
  rintro rfl;obtain⟨o,b⟩:=q;rw[s.2]at b;cases b
 have B:w≠bm:=by
  rintro rfl;obtain⟨o,b⟩:=q;rw[s.1]at b;cases b
 obtain⟨N,P,T,R,j,C,D,E,F,V,K,L,M⟩:=made.read;have e:=j;rw[i]at e;simp only[List.cons.injEq,and_true,true_and]at e;obtain⟨rfl,rfl,rfl,rfl⟩:=e;have v:=made.same;have A:0<=c.locals:=by have:=(made.same.I5 p).2.2.2.2.2;omega
 refine⟨⟨a,_,_,_,j,C,D,E,F,⟨by rw[v.2.2.1];exact y,by rw[v.2.2.1];exact x⟩,K,L,M,λS n Q h=>.inr ?_⟩,⟨made.same.I5 p,(λh=>nomatch h),λ_=>⟨made.ms.mi.len,made.ms.num,made.ms.val.TK A,a,w,H,d,I,J,i,⟨B,t⟩,z⟩⟩⟩;simp only[Z_]at h;exact⟨d,0,h.1.symm,t⟩
theorem FH {g0 g:Heap} {b:Nat} {x y:dc} {t:TypeId} (f:g0 b=none) (e:g b=some (.cells (cK x++cK y).toArray t (0,0))) (c:cy x.kind/\cy x.a/\cy x.b) (d:cy y.kind/\cy y.a/\cy y.b):Row 3 yg (since g0 g) (.slice (some ⟨b,0,none⟩) 2 2) [x,y]:=by
 have h:bY 3 (since g0 g) (.slice (some ⟨b,0,none⟩) 2 2) ([x,y].map cK) [b]:=⟨λz a=>by obtain⟨w,_,rfl⟩:=List.mem_map.1 a;rfl,.inr ⟨b,2,[],t,rfl,Z,by rw[ef f];simpa using e,by simp[cK],rfl⟩⟩
 refine h.xq Z λz a=>⟨rfl,?_⟩
 simp only[List.mem_cons,List.not_mem_nil,or_false]at a;rcases a with rfl|rfl
 ·exact c
 exact d
theorem nP.st {d g0 g:Heap} {j:Option Addr} {h:Nat} {cs:List dB} {bm i:Nat} {recs:List (List Value)} {A:List bT} {k off a:Nat} {vb:Value} {p q:Int} {K:Heap->Prop} {b:List Value} {f:bT} (u:nP g0 g j h cs bm i recs A k) (C:k < A.length) (m:lq (since g0 g) bm b f/\C2 (since g0 g) bm cs.length true b f) (y:zk (since g0 g) bm (recs.set k b)) (z:f.cls≠0)
  (r:bC g a vb q) (J:bC d a vb p) (D:p<=q) (B:d bm=none) (G:d.le g) (N:off=0+k*8)
  (x:∀ c v e,d.le c->bC c a vb q->nP g0 c j h cs bm i v e (k+1)->e.length=A.length->K (cO c a vb q)):St (cO g a vb q) bm off b K:=by
 obtain⟨Q,pre,post,L,s,P,E,F,v,e,M,H⟩:=u.put C m.1 m.2 y z;have I:a≠bm:=λw=>by have:=r.free;rw[w,s]at this;cases this
 have t:=Heap.aT (o:=Obj.cells (pre++b++post).toArray L (0,0)) G B;exact j4 r.free s (by simp only[U_];omega) (AU O (by rw[E,F])) (x _ _ _ t (J.to t (by simp[Heap.set,I,r.free]) D) M H)
theorem rA.args {h:Heap} {b c:Nat} {recs:List (List Value)} {A:List bT} (r:rA h b c recs A):∀(i:Nat) (x:List Value) (v:Value),recs[i]? = some x->x[2]? = some v->∀ a o n c,v=.slice (some ⟨a,o,none⟩) n c->∃ p,h a=some p:=by
 rintro i x v j d a o n c rfl;obtain⟨f,rfl⟩:=List.getElem?_eq_some_iff.1 j;obtain⟨q,s,w,k,e,_,_,_,_,⟨⟨B,m⟩,_⟩,_⟩:=(r.each i f (by rw[<-r.len];exact f)).ex;rw[e]at d;simp only[List.getElem?_cons_succ,List.getElem?_cons_zero,v_]at d;subst d;rcases m with ⟨e,_⟩|⟨t,u,y,e,g,_⟩
 ·cases e
 simp only[Z_,v_,Addr.mk.injEq]at e;obtain⟨⟨rfl,_⟩,_⟩:=e;exact⟨_,fk _ _ _ _ g⟩
theorem nP.mE {g0 g:Heap} {d:Option Addr} {b:Nat} {cs:List dB} {bm c:Nat} {recs:List (List Value)} {A:List bT} {k:Nat} (u:nP g0 g d b cs bm c recs A k):k=0->∀(i:Nat) (r:List Value),recs[i]? = some r->r[5]? = some (Value.slice none 0 0)/\r[6]? = some (Value.slice none 0 0):=by
 rintro rfl i r f;obtain⟨a,rfl⟩:=List.getElem?_eq_some_iff.1 f;obtain⟨h,e,_⟩:=(u.mid i a (by rw[<-u.row.len];exact a)).hd Z;rw[e];exact⟨rfl,rfl⟩
theorem C3 {g0 F:Heap} {j:Nat} {vb:Value} {p:Int} (r:bC F j vb p) (hp:p<=30000000) (h0:g0.le F) (hB:Pc g0) :
  Dr prog 115 [.pointer (some ⟨j,0,none⟩)] F j vb p 9000 λg' v=>∃ m h cs bm B recs A,v=.agg #[.slice m cs.length h,.slice (some ⟨bm,0,none⟩) A.length B]/\nP g0 g' m h cs bm B recs A A.length/\F bm=none:=by
 refine bE ax func115 SO U rfl ?_;conv=>whnf
 refine ia r (qj r O) (λv g1 q1 l1 r1 Y9 Za C=>?_);obtain⟨cs,ag,oc,I1,Vz,ok⟩:=C;have K:=oc.form;obtain⟨m,h,rfl,I2⟩:=K;conv=>whnf
 refine ia r1 (AO m cs.length h r1 O ⟨ok.1,ok.2.1⟩) (λv g2 q2 l2 r2 Tm Tn C=>?_);obtain⟨bm,B,z,rfl,S,UX,Zm,I8⟩:=C;have I0:=y_ h0 l1;have Zn:=y_ I0 l2;have Zo:g0 bm=none:=aW I0 S.fr;have Zp:=S.row;obtain⟨recs,N4,N5,KT⟩:=Zp;have u2:nP g0 g2 m h cs bm B recs z 0:=by
  refine⟨FC (oc.aK oB λJ hb I R=>?_) ok,ok,⟨N4.aK (ie λJ hb=>by rw[V_.1 hb];exact Zo),N5,λi M u=>?_⟩,⟨UX,Zm⟩,λi M u=>?_,λt=>absurd t O,λae hm=>(I8 ae hm).2⟩
  ·have uD:J≠bm:=by
    rintro rfl;rw[S.fr]at R;cases R
   unfold aV;rw[if_neg uD,ef (aW h0 (Vz J hb))];exact l2 _ _ R
  ·obtain⟨E,ab,V,e1,e2,o⟩:=KT i M u;have d:=(I8 z[i] (x_ u)).1;obtain⟨i1,i2,i3,i4⟩:=uq d ok.2.1;exact⟨E,_,_,_,ab,i1,i2,i3,i4,⟨V.since hB Zn,by have:=d.2.1;omega⟩,by rw[e1];exact gv _,by rw[e2];exact gv _,by rw[o];exact gv _,λp n h t=>.inl (by simp only[Z_]at t;exact t.2.1.symm)⟩
  obtain⟨E,ab,V,e1,e2,o⟩:=KT i M u;exact⟨(I8 z[i] (x_ u)).1,λ_=>⟨E,ab,e1,e2,o⟩,λt=>by simp at t⟩
 have N6:F bm=none:=aW l1 S.fr;have LC:=y_ l1 l2;clear S N4 N5 KT I8 oc I1 Vz I2;conv=>whnf
 refine eF [0,2,3,4] [2,3] (λy:Nat × (Heap × Int) × List (List Value) × List bT=>y.1<=z.length/\y.2.2.2.length=z.length/\F.le y.2.1.1/\bC y.2.1.1 j vb y.2.1.2/\p<=y.2.1.2/\y.2.1.2<=p+300+2110*(y.1:Int)/\nP g0 y.2.1.1 m h cs bm B y.2.2.1 y.2.2.2 y.1) (λy=>z.length-y.1)
  (λy=>([.v (.pointer (some ⟨j,0,none⟩)),.l 2 0,.l 3 0,.v (.int .i64 y.1)],[some [.slice none 0 0,.slice none 0 0],some [.slice m cs.length h,.slice (some ⟨bm,0,none⟩) z.length B]],cO y.2.1.1 j vb y.2.1.2))
  (0,(g2,q2),recs,z) ⟨Nat.zero_le _,rfl,LC,r2,by simp only;omega,by simp only;omega,u2⟩ rfl ?_
 clear u2 r2 LC;rintro⟨i,⟨L,q3⟩,recs,A⟩ ⟨hi,C,l3,T,HB,GS,c⟩;simp only at hi C l3 T HB GS c ⊢;conv=>whnf
 apply aC<;>intro gi;all_goals conv=>whnf
 ·have Q:i < A.length:=by omega
  have K:=c.row.at Q;obtain⟨Lu,o,VA,_⟩:=K;have Pe:=c.mid i Lu Q;have Ir:decide (i < i)=false:=by simp
  rw[Ir]at Pe;have hh:=Pe.hd rfl;obtain⟨E,Y,TN,Pf,s⟩:=hh;have d:=Pe.head;have P:=c.Pd _ (x_ Q);have VB:=c.row.args;have VC:=c.mE;have VD:∀ r:List Value,recs[i]? = some r->r[2]? = some E:=λr b=>by
   rw[w_ Lu,Y]at b;simp only[v_]at b;rw[<-b];rfl
  have VE:=c.fst;rw[Y]at o;clear Pe;generalize A[i]=a at VA Y TN Pf s d o P;have hex:=VA.ex;obtain⟨a',_,_,_,Pg,i1,i2,i3,i4,⟨az,an⟩,_⟩:=hex;have Zq:a'=E:=by
   rw[Y]at Pg;unfold dV at Pg;simp only[List.cons.injEq]at Pg;exact Pg.2.2.1.symm
  subst Zq;have K:=az.form;obtain⟨e,ac,rfl⟩:=K;have Zr:g0.le L:=y_ h0 l3;have Ph:dP (cO L j vb q3) bm (0+i*8) 8=some (dV a.cls a.eu (.slice e a.args.length ac) a.out a.locals):=dD (eE T.free) (dD (aO _ _) o);unfold dV at Ph;have VF:bP (since g0 L) (.slice e a.args.length ac) a.args:=(az.ints O).le (fk _ _);rw[<-C];refine ay ?_;conv=>whnf
  refine ptr ?_;conv=>whnf
  refine dZ Ph ?_;conv=>whnf
  refine ia T (C0 _ ⟨cs,A⟩ a (.slice e a.args.length ac) T O Zr c.FE VF c.N2 (by have:=c.num;show A.length<=100;omega) d TN Pf s) (λv g4 q4 w r4 NV NW hM=>?_);obtain⟨rec,m',rfl,made⟩:=hM;have u4:=c.aK w;have Zs:=c.num;have VG:=y_ l3 w;have N7:=y_ h0 VG;have N8:∃ I,since g0 L bm=some I:=c.row.own.in bm Z;have VH:=az.le (bQ bm (bI g0 w));have Mz:=made.form.form;obtain⟨pc,kc,bs,ks,kv,rfl,Zt,LK⟩:=Mz;have TO:∃ p n aa,kv=Value.slice p n aa:=by
   rcases LK with ⟨rfl,_⟩|⟨bk,rfl,_⟩
   ·exact⟨_,_,_,rfl⟩
   exact⟨_,_,_,rfl⟩
  obtain⟨pk,nk,ck,rfl⟩:=TO;conv=>whnf
  refine HH r4 N7 (yZ _ _ ⟨cs,A⟩ m' (since g0 g4) u4.FE made.read u4.N2 made.ms) (λv G g r5 b=>?_);obtain⟨sl,rfl,_⟩:=b;have u5:=u4.aK g;have TP:=y_ VG g;have TQ:=y_ h0 TP;conv=>whnf
  cases Gj:(bK ⟨cs,A⟩ m').2
  ·have TR:dP (cO G j vb q4) bm (0+i*8) 8=some [.int .i64 a.cls,.int .i64 a.eu,.slice e a.args.length ac,.int .i64 a.out,.int .i64 a.locals,.slice none 0 0,.slice none 0 0,.slice none 0 0]:=dD (eE r5.free) (dD (y_ w g) (dD (aO _ _) o));have N9:bP (since g0 G) (.slice e a.args.length ac) a.args:=VF.le (bI g0 (y_ w g));conv=>whnf
   refine ay ?_;conv=>whnf
   refine ptr ?_;conv=>whnf
   refine dZ TR ?_;conv=>whnf
   refine ia r5 (ug _ a r5 O (vK d ok.2.1 (N9.le (aO _ _)) TN Pf s)) (λv g6 q6 H r6 q60 q61 f=>?_);refine f.elim λX f=>f.elim λx f=>f.elim λy f=>?_;have hv:=f.1;subst hv;have zA:=f.2.1;have e6:=f.2.2.1;have FB:=f.2.2.2;have VI:=y_ TP H;have Zu:=y_ h0 VI;have u6:=u5.aK H;have Gr:dw ⟨cs,A⟩ {a with code:=[x,y]} x/\dw ⟨cs,A⟩ {a with code:=[x,y]} y:=by
    have u:=ok.1;rcases FB with ⟨rfl,rfl⟩|⟨rfl,rfl|⟨af,rfl,w0,w1⟩⟩
    ·exact⟨(aS (p:=5) (q:=0) rfl).2 ⟨by unfold bh;simp;omega,rfl⟩,(aS (p:=0) (q:=0) rfl).2 ⟨rfl,rfl⟩⟩
    ·exact⟨(aS (p:=0) (q:=0) rfl).2 ⟨rfl,rfl⟩,(aS (p:=0) (q:=0) rfl).2 ⟨rfl,rfl⟩⟩
    exact⟨(aS (p:=1) (q:=0) rfl).2 ⟨by unfold bh;simp[eU];omega,rfl⟩,(aS (p:=0) (q:=0) rfl).2 ⟨rfl,rfl⟩⟩
   have si:=d.2.2.2.2.1;have bx:=qp Gr.1 ok (by show A.length<=100;omega) (by show a.locals<=1000;omega) Z;have by_:=qp Gr.2 ok (by show A.length<=100;omega) (by show a.locals<=1000;omega) Z;have rR:=FH (aW TQ zA) e6 (by unfold cy;omega) (by unfold cy;omega);have Oa:=N9.le (bI g0 H);have KS:dz (since g0 g6) [.int .i64 a.cls,.int .i64 a.eu,.slice e a.args.length ac,.int .i64 a.out,.int .i64 a.locals,.slice (some ⟨X,0,none⟩) 2 2,.slice none 0 0,.slice none 0 0] {a with code:=[x,y]} :=
    ⟨_,_,_,_,rfl,i1,i2,i3,i4,Oa,rR,by rw[show({a with code:=[x,y]}:bT).aF=[]from Pf];exact gv _,by rw[show({a with code:=[x,y]}:bT).catches=[]from s];exact gv _⟩
   have N:KC ⟨cs,A⟩ {a with code:=[x,y]}:=⟨d,Z,λV D=>by
    simp only[List.mem_cons,List.not_mem_nil,or_false]at D;rcases D with rfl|rfl
    ·exact Gr.1
    ·exact Gr.2,by
    refine⟨by rw[show({a with code:=[x,y]}:bT).catches=[]from s];simp,λV D=>?_⟩;rw[show({a with code:=[x,y]}:bT).catches=[]from s]at D;cases D⟩
   conv=>whnf
   refine HH r6 Zu (ni _ ⟨cs,A⟩ {a with code:=[x,y]} (since g0 g6) e (some ⟨X,0,none⟩) none none a.args.length 2 0 0 ac 2 0 0 u6.FE KS u6.N2 N) (λv g7 l7 r7 b=>?_);refine b.elim λb7 b=>b.elim λc7 b=>b.elim λW b=>?_;have hv:=b.1;subst hv;have aA:=b.2.1;have nA:=b.2.2.1;have vA:=b.2.2.2;have Zv:=y_ VI l7;have ls:=bI g0 l7;have u7:=u6.aK l7;have hnA:W.length=2:=by rw[nA];rfl
   have TS:since g0 G X=none:=mg zA;have I9:zf (since g0 G) (since g0 g7) ⟨cs,A⟩ a (.slice e a.args.length ac) [.int .i64 a.cls,.int .i64 a.eu,.slice e a.args.length ac,.int .i64 a.out,.int .i64 a.locals,.slice (some ⟨X,0,none⟩) 2 2,.slice (some ⟨b7,0,none⟩) W.length c7,.slice none 0 0] {a with code:=[x,y],aF:=W} :=
    ⟨⟨rfl,rfl,rfl,rfl,rfl⟩,⟨_,_,_,_,rfl,i1,i2,i3,i4,Oa.le ls,rR.le ls (λ_ _ hx=>hx),aA.oA O,by rw[show({a with code:=[x,y],aF:=W}:bT).catches=[]from s];exact gv _⟩,⟨⟨N.head,N.len,N.code,N.cat⟩,nA,vA⟩,⟨_,_,_,_,_,rfl,⟨TS,aW (bI g0 H) aA.fr⟩,.inl ⟨rfl,s⟩⟩,⟨[x],y,rfl,λV D=>by
     rw[V_.1 D];rcases FB with ⟨_,rfl⟩|⟨_,rfl|⟨af,rfl,_⟩⟩<;>simp,by rcases FB with ⟨rfl,_⟩|⟨rfl,_⟩<;>simp⟩⟩
   have C4:∃ I,since g0 G bm=some I:=u5.row.own.in bm Z;have hN:=FF (k:=i) (recs:=recs) (y_ (bI g0 H) ls) I9 C4 Lu VD (λad r v M u J I n aa h3=>by
    obtain⟨o',R⟩:=VB ad r v M u J I n aa h3;exact⟨o',bI g0 (y_ w g) _ _ R⟩) VC (λt=>ei.le (bI g0 (y_ w g)) (VE t))
   have hF:=FG (n:=cs.length) I9 (((VH.le (bQ bm (bI g0 g))).le (bQ bm (bI g0 H))).le (bQ bm ls)) (by have:=d.2.1;omega) C4 d;conv=>whnf
   refine ay ?_;conv=>whnf
   refine ptr ?_;conv=>whnf
   refine u7.st Q hF hN P r7 r O N6 Zv rfl (λg9 FI A9 TT r9 u9 n9=>?_);conv=>whnf
   refine av ?_;conv=>whnf
   exact cL (i+1,(g9,_),FI,A9) ⟨by simp only;omega,by simp only;omega,TT,r9,by simp only;omega,by simp only;omega,u9⟩ (by simp only;omega) rfl
  have Ja:zf (since g0 L) (since g0 G) ⟨cs,A⟩ a (.slice e a.args.length ac) _ m':=⟨made.same,made.read.le (bI g0 g),made.ms,made.form,made.kd⟩
  have P:m'.cls≠0:=by rw[made.same.1];exact P
  have hN:=FF (k:=i) (recs:=recs) (bI g0 (y_ w g)) Ja N8 Lu VD VB VC VE;have hF:=FG (n:=cs.length) Ja (VH.le (bQ bm (bI g0 g))) (by have:=d.2.1;omega) N8 d;conv=>whnf
  refine ay ?_;conv=>whnf
  refine ptr ?_;conv=>whnf
  refine u5.st Q hF hN P r5 r O N6 TP rfl (λg9 FI A9 TT r9 u9 n9=>?_);conv=>whnf
  refine av ?_;conv=>whnf
  exact cL (i+1,(g9,_),FI,A9) ⟨by simp only;omega,by simp only;omega,TT,r9,by simp only;omega,by simp only;omega,u9⟩ (by simp only;omega) rfl
 have Zw:i=A.length:=by omega
 have Zs:=c.num;rw[<-C];exact⟨_,_,rfl,l3,T.free,O,O,m,h,cs,bm,B,recs,A,rfl,by rw[<-Zw];exact c,N6⟩
def VJ (P:Program) (f:FuncId) (args:List Value) (g0 g:Heap) (b:Nat) (vb:Value) (p k:Int) (A:Heap->Value->Prop):Prop :=
 bq P f args (cO g b vb p) λv c=>∃ a q,c=cO a b vb q/\g0.le a/\a b=none/\p<=q/\q<=p+k/\A a v
theorem Oc {P:Program} {f:FuncId} {args:List Value} {g0 g:Heap} {b:Nat} {vb:Value} {d p k:Int} {A:Heap->Value->Prop} {K:Value->Heap->Prop} {E:List PanicEntry->Heap->Prop} (t:bC g0 b vb d) (w:d<=p) (m:VJ P f args g0 g b vb p k A)
  (s:∀ v a q,g0.le a->bC a b vb q->p<=q->q<=p+k->A a v->K v (cO a b vb q)):Go.Vc.Call P f args (cO g b vb p) K E :=
 aB m λv u o=>by
  obtain⟨a,q,rfl,c,j,e,h,i⟩:=o;exact s v a q c (t.to c j O) e h i
theorem kB {g:Heap} {b:Nat} {cs:Array Value} {t:TypeId} {z:Nat × Nat} (e:g b=some (.cells cs t z)):∀ {n off:Nat} {vs:List Value},0 < n->dP g b off n=some vs->∃ pre post,cs.toList=pre++vs++post/\pre.length=off:=by
 intro n off vs m a;have j:=sC a;have hle:off+n<=cs.toList.length:=by
  have f:∃ v,vs[n-1]? = some v:=⟨vs[n-1]'O,w_ O⟩
  obtain⟨v,i⟩:=f;have c:=aJ a i;simp only[rd,e]at c;have:=(Array.getElem?_eq_some_iff.1 c).1;simp;omega
 have h:g b=some (.cells cs.toList.toArray t z):=by simpa using e
 have d:=bA h n off hle;rw[a]at d;refine⟨cs.toList.take off,cs.toList.drop (off+n),?_,by rw[List.length_take];omega⟩;rw[Option.some.inj d,List.append_assoc];have:(cs.toList.drop off).take n++cs.toList.drop (off+n)=cs.toList.drop off:=by
  rw[<-List.drop_drop,List.take_append_drop]
 rw[this,List.take_append_drop]
theorem vM {j:Type} {sz:Nat} {R:Heap->List Value->j->Prop} {g0 g:Heap} {p:Option Addr} {n c:Nat} {l:List j} (y:Row sz R (since g0 g) (.slice p n c) l) (D:KP (since g0 g)) (h:0 < sz) {i:Nat} (u:i < l.length) :
  ∃ b off vs pre post t,p=some ⟨b,off,none⟩/\g0 b=none/\g b=some (.cells (pre++vs++post).toArray t (0,0))/\(since g0 g) b=some (.cells (pre++vs++post).toArray t (0,0))/\pre.length=off+i*sz/\dP (since g0 g) b (off+i*sz) sz=some vs/\R (since g0 g) vs l[i]:=by
 obtain⟨b,off,vs,x,e,q⟩:=y.get u;have s:∃ d t z,since g0 g b=some (.cells d t z):=by
  obtain⟨v,A⟩:∃ v,vs[0]? = some v:=⟨vs[0]'(by rw[sC e];exact h),w_ _⟩
  have f:=aJ e A;unfold rd at f;split at f
  ·rename_i d t z B;exact⟨d,t,z,B⟩
  cases f
 obtain⟨d,t,z,a⟩:=s;have C:=D _ _ _ _ a;subst C;obtain⟨pre,post,m,w⟩:=kB a h e;have o:d=(pre++vs++post).toArray:=by rw[<-m]
 rw[o]at a;exact⟨b,off,vs,pre,post,t,x,(dU a).1,(dU a).2,a,w,e,q⟩
structure uu (g g':Heap) (bm:Nat):Prop where
 int:uj g g'
 bool:∀ b off x,b≠bm->rd g b off=some (.bool x)->∃ x',rd g' b off=some (.bool x')
 row:∀ b off v l,b≠bm->rd g b off=some v->bP g v l->∃ v' l',rd g' b off=some v'/\bP g' v' l'
theorem sM.AV {g d:Heap} (a:sM g d) (bm:Nat):uu g d bm:=⟨a.int,λb c x _ h=>a.bool b c x h,λb c v l _ h i=>a.row b c v l h i⟩
theorem uu.trans {j m o:Heap} {bm:Nat} (a:uu j m bm) (c:uu m o bm):uu j o bm where
 int:=λb d x h i=>by
  obtain⟨y,e,g⟩:=a.int b d x h i;exact c.int b d y e g
 bool:=λb d x f h=>by
  obtain⟨y,e⟩:=a.bool b d x f h;exact c.bool b d y f e
 row:=λb d v l f h i=>by
  obtain⟨q,p,e,g⟩:=a.row b d v l f h i;exact c.row b d q p f e g
theorem xy {g:Heap} {b:Nat} {pre post d e:List Value} {t:TypeId} (m:g b=some (.cells (pre++d++post).toArray t (0,0))) (i:zj d) (j:zj e):uu g (g.set b (.cells (pre++e++post).toArray t (0,0))) b:=by
 have c:=qt m i j;refine⟨c,λf s x a h=>⟨x,by rw[tB a];exact h⟩,λf s v l a h o=>?_⟩;obtain⟨q,p,_⟩:=gP c o;exact⟨v,q,by rw[tB a];exact h,p⟩
structure lz (h:Heap) (bm:Nat) (rec:List Value) (m:bT):Prop where
 read:dz h rec m
 at_:∀ x1 x2 a x3 x4 c p n cc k,rec=[.int .i64 x1,.int .i64 x2,a,.int .i64 x3,.int .i64 x4,c,.slice p n cc,k]->n=0\/∃ bs off,p=some ⟨bs,off,none⟩/\bs≠bm
theorem FJ {t b:Heap} {bm:Nat} (a:uu t b bm) {p:Option Addr} {n c:Nat} {l:List cz} (B:Row 3 gR t (.slice p n c) l) (h:n=0\/∃ d off,p=some ⟨d,off,none⟩/\d≠bm):∃ o,Row 3 gR b (.slice p n c) o:=by
 obtain⟨u,R,L,e,v,g⟩:=B;simp only[Z_]at e;obtain⟨rfl,rfl,rfl⟩:=e;rcases g with rfl|⟨s,off,rfl,C⟩
 ·exact⟨[],Z,p,c,rfl,Z,.inl rfl⟩
 rcases h with h|⟨d,P,e,j⟩
 ·have:l=[]:=List.eq_nil_of_length_eq_zero h;subst this;exact⟨[],Z,_,c,rfl,Z,.inl rfl⟩
 simp only[v_,Addr.mk.injEq,and_true]at e;obtain⟨rfl,rfl⟩:=e;obtain⟨o,z,A⟩:=ic (Q:=λi (J:cz)=>∃ q,dP b s (off+i*3) 3=some q/\gR b q J) l.length (λi y=>by
  obtain⟨q,f,M,N,rfl,D,E⟩:=C i l[i] (by simp[y]);obtain⟨u,m⟩:=eX f;obtain⟨v,m⟩:=eX m;obtain⟨g,_⟩:=eX m;obtain⟨K,f⟩:=a.bool _ _ _ j u;obtain⟨S,H,w,F⟩:=a.row _ _ _ _ j v D;obtain⟨T,I,x,G⟩:=a.row _ _ _ _ j g E;exact⟨⟨K,H,I⟩,_,gp f (gp w (nO x)),_,_,rfl,F,G⟩)
 exact⟨o,O,_,c,by rw[z],O,.inr ⟨s,off,rfl,A⟩⟩
theorem lz.VK {g b:Heap} {bm:Nat} {f:List Value} {m:bT} (d:lz g bm f m) (a:uu g b bm):∃ z,dz b f z:=by
 obtain⟨h,i,I,k,e,q,s,t,u,j,o,c,p⟩:=d.read;obtain⟨v,A,_⟩:=gP a.int j;obtain⟨w,B,F⟩:=j5 (xo a.int) o;obtain⟨y,D,G⟩:=j5 (xp a.int) p;obtain⟨H,E,rfl,_,_⟩:=c.len;obtain⟨x,C⟩:=FJ a c (d.at_ _ _ _ _ _ _ _ _ _ _ e);exact⟨⟨m.cls,m.eu,v,m.out,m.locals,w,x,y⟩,⟨h,i,_,k,e,q,s,t,u,A,B,C,D⟩⟩
theorem lq.AV {h:Heap} {b:Nat} {d:List Value} {m:bT} (c:lq h b d m):lz h b d m:=by
 refine⟨c.Vy,λu v i w x o p n e k f=>?_⟩;obtain⟨j,q,t,s,a,_,_,_,_,_,_,_,_,g⟩:=c.ex;rw[f]at a;simp only[List.cons.injEq,and_true]at a;exact g p n e a.2.2.2.2.2.2.1.symm
theorem FK {g d:Heap} {bm:Nat} (a:uu g d bm) {v:Value} {l:List dB} (y:eP (aV g bm) v l):∃ c,eP d v c:=by
 obtain⟨e,F,m,rfl,h,t⟩:=y;rcases t with rfl|⟨b,q,rfl,A⟩
 ·exact⟨[],Z,F,m,rfl,Z,.inl rfl⟩
 obtain⟨c,w,x⟩:=ic (Q:=λi (H:dB)=>∃ j,dP d b (q+i*2) 2=some j/\uK d j H) l.length (λi u=>by
  obtain⟨j,f,J,rfl,B,C⟩:=A i l[i] (by simp[u]);obtain⟨e,z⟩:=eX f;obtain⟨h,_⟩:=eX z;have p:b≠bm:=by
   rintro rfl;simp[rd,aV]at e
  have G:∀ o,rd (aV g bm) b o=rd g b o:=λo=>by unfold rd aV;rw[if_neg p]
  rw[G]at e h;obtain⟨I,f,D⟩:=a.int _ _ _ e B;obtain⟨K,c,s,E⟩:=a.row _ _ _ _ p h (C.le (fk _ _));exact⟨⟨I,c⟩,_,gp f (nO s),_,rfl,D,E⟩)
 exact⟨c,O,_,m,by rw[w],O,.inr ⟨b,q,rfl,x⟩⟩
theorem nP.end {g0 h c:Heap} {s:Option Addr} {p:Nat} {cs:List dB} {bm q:Nat} {recs:List (List Value)} {A:List bT} {k:Nat} (u:nP g0 h s p cs bm q recs A k) (a:uu (since g0 h) (since g0 c) bm) (L:c bm=h bm) {i:Nat} (P:i < A.length) {b:List Value} {X:bT} (S:lz (since g0 c) bm b X) (x:zj b) :
  ∃ D:i < recs.length,∃ pre post t,c bm=some (.cells (pre++recs[i]++post).toArray t (0,0))/\pre.length=i*8/\b.length=8/\recs[i].length=8 /\
   (∀ d,d=c.set bm (.cells (pre++b++post).toArray t (0,0))->(∃ f,Row 8 dz (since g0 d) (.slice (some ⟨bm,0,none⟩) A.length q) f)/\(∃ V,eP (since g0 d) (.slice s cs.length p) V)):=by
 obtain⟨D,_,z,pre,post,t,K,T,Y⟩:=u.row.at P;obtain⟨v,_⟩:=u.fresh;have M:h bm=some (.cells (pre++recs[i]++post).toArray t (0,0)):=(dU K).2;have y:c bm=some (.cells (pre++recs[i]++post).toArray t (0,0)):=by rw[L];exact M
 have N:since g0 c bm=some (.cells (pre++recs[i]++post).toArray t (0,0)):=by rw[ef v];exact y
 have C:b.length=8:=by obtain⟨_,_,_,_,_,_,_,_,e,_⟩:=x;rw[e];rfl
 have R:recs[i].length=8:=by obtain⟨_,_,_,_,_,_,_,_,e,_⟩:=z.AT;rw[e];rfl
 refine⟨D,pre,post,t,y,T,C,R,λd G=>?_⟩;have E:since g0 d=(since g0 c).set bm (.cells (pre++b++post).toArray t (0,0)):=by rw[G];exact fU v
 have g:=xy N z.AT x;rw[<-E]at g;have own:=Y b (since g0 d) C (by rw[E];exact cY _ _ _);obtain⟨f,I,J⟩:=ic (Q:=λj (W:bT)=>∀ w:j < (recs.set i b).length,dz (since g0 d) (recs.set i b)[j] W) A.length (λj B=>by
  by_cases e:j=i
  ·subst e;obtain⟨m,o⟩:=S.VK g;exact⟨m,λ_=>by simpa using o⟩
  obtain⟨m,o⟩:=(u.row.each j (by rw[u.row.len];exact B) B).AV.VK (a.trans g);exact⟨m,λ_=>by rw[List.getElem_set_ne (λF=>e F.symm)];exact o⟩)
 exact⟨⟨f,own.NT (by rw[List.length_set,u.row.len,I]) (by have:=u.num;omega) λj w H=>J j f[j] (by simp[H]) w⟩,FK (a.trans g) u.cls⟩
theorem FL (x:Int):cy (IntKind.i64.wrap x):=by
 unfold cy;simp[IntKind.wrap,IntKind.bits,IntKind.signed];omega
theorem HR {G:Heap} {b:Nat} {pre x post:List Value} {t:TypeId} {i:Nat} {z y:Int} (d:G b=some (.cells (pre++x++post).toArray t (0,0))) (c:x[i]? = some (.int .i64 z)) (f:cy y):sM G (G.set b (.cells (pre++x.set i (.int .i64 y)++post).toArray t (0,0))):=by
 have a:=rV (cs:=pre++x++post) (off:=pre.length+i) d (Bt c) f;have e:(pre++x++post).set (pre.length+i) (.int .i64 y)=pre++x.set i (.int .i64 y)++post:=by
  rw[List.append_assoc,List.set_append,if_neg O,Nat.add_sub_cancel_left,List.set_append,if_pos (List.getElem?_eq_some_iff.1 c).1,List.append_assoc]
 rw[e]at a;exact a
theorem lz.FM {g c:Heap} {bm:Nat} {e:List Value} {m:bT} (d:lz g bm e m) (a:sM g c):∃ b,lz c bm e b:=by
 obtain⟨b,h,_⟩:=HG a d.read;exact⟨b,h,d.at_⟩
theorem C5 {G:Heap} {bm b off n d:Nat} {f g h i:Int} {a c k:Value} {m:bT} (o:dz G [.int .i64 f,.int .i64 g,a,.int .i64 h,.int .i64 i,c,.slice (some ⟨b,off,none⟩) n d,k] m) (j:b≠bm):lz G bm [.int .i64 f,.int .i64 g,a,.int .i64 h,.int .i64 i,c,.slice (some ⟨b,off,none⟩) n d,k] m:=by
 refine⟨o,λw x p y z q v u s t e=>.inr ?_⟩;simp only[List.cons.injEq,Z_,and_true]at e;exact⟨b,off,e.2.2.2.2.2.2.1.1.symm,j⟩
theorem gx {a b c d:Int} {v w y z:Option Addr} {q s t u e f g i:Nat} (j:cy a) (m:cy b) (o:cy c) (p:cy d):zj [.int .i64 a,.int .i64 b,.slice v q e,.int .i64 c,.int .i64 d,.slice w s f,.slice y t g,.slice z u i] :=
 ⟨_,_,_,_,_,_,_,_,rfl,j,m,o,p,(λx h=>nomatch h),(λx h=>nomatch h),(λx h=>nomatch h),(λx h=>nomatch h)⟩
def Kh (l:List dc):Prop:=∃ a y,l=a++[y]/\(y.kind=20\/y.kind=21->y.a=0/\y.b=0/\∀ x∈a,x.kind≠22)
def vN (A:List bT):Prop:=∀ m,A[0]? = some m->∃ a y,m.code=a++[y]/\(y.kind=20\/y.kind=21->y.a=0/\y.b=0/\(∀ x∈a,x.kind≠22)/\∀ n∈A,n.cls≠0)
def Jb (h:Heap) (bm:Nat) (recs:List (List Value)) (i:Nat) (a:List Value):Prop:=(∃ r,recs[i]? = some r/\a[5]? = r[5]?/\(ei Kd h bm recs\/ei Kh h bm recs/\a=r))
theorem zl {x y:dc} (h:cK x=cK y):x=y:=by
 obtain⟨a,c,e⟩:=x;obtain⟨b,d,f⟩:=y;unfold cK at h;simp only[List.cons.injEq,Value.int.injEq,true_and,and_true]at h;rw[h.1,h.2.1,h.2.2]
theorem BV {h:Heap} {ok:List dc->Prop} {b n c:Nat} {l:List dc} (j:lu ok h b n) (f:Row 3 yg h (.slice (some ⟨b,0,none⟩) n c) l):ok l:=by
 obtain⟨q,t,k,m⟩:=j;have u:l.length=n:=by
  obtain⟨_,_,d,_⟩:=f.len;simp only[Z_]at d;exact d.2.1.symm
 have:l=q:=List.ext_getElem O λp g i=>by
  obtain⟨s,v,w,e,a,o,_⟩:=f.get g;simp only[v_,Addr.mk.injEq,and_true]at e;obtain⟨rfl,rfl⟩:=e;rw[m p i]at a;simp only[v_]at a;rw[o]at a;exact zl a.symm
 rw[this];exact k
theorem xz {pre x post:List Value} {h:Heap} {b:Nat} {t:TypeId} (a:h b=some (.cells (pre++x++post).toArray t (0,0))):dP h b pre.length x.length=some x:=by
 rw[bA a _ _ (by simp only[U_];omega),List.append_assoc,List.drop_left,List.take_left]
theorem BW {h a:Heap} {b:Nat}:∀ {n off:Nat},(∀ k,k < n->rd a b (off+k)=rd h b (off+k))->dP a b off n=dP h b off n
 | 0,_,_=>rfl
 | n+1,off,hk=>by
  have c:=hk 0 O;have d:dP a b (off+1) n=dP h b (off+1) n:=BW λk e=>by
   have:=hk (k+1) O;rw[show off+(k+1)=off+1+k by omega]at this;exact this
  simp only[Nat.add_zero]at c;simp only[dP,c,d]
theorem vO {h a:Heap} {b i j sz:Nat} {pre x x' post:List Value} {t m:TypeId} (c:h b=some (.cells (pre++x++post).toArray t (0,0))) (d:a b=some (.cells (pre++x'++post).toArray m (0,0))) (f:x.length=sz) (g:x'.length=sz) (q:pre.length=i*sz) (o:j≠i):dP a b (0+j*sz) sz=dP h b (0+j*sz) sz:=by
 refine BW λk p=>?_;simp only[rd,c,d,List.getElem?_toArray];by_cases e:j < i
 ·have:(j+1)*sz<=i*sz:=Nat.mul_le_mul_right _ e;rw[Nat.succ_mul]at this;rw[List.append_assoc,List.append_assoc,List.getElem?_append_left O,List.getElem?_append_left O]
 have:(i+1)*sz<=j*sz:=Nat.mul_le_mul_right _ O;rw[Nat.succ_mul]at this;rw[List.getElem?_append_right (by simp;omega),List.getElem?_append_right (by simp;omega)];simp[f,g]
theorem KU {g0 G:Heap} {V:Option Addr} {T:Nat} {cs:List dB} {bm C:Nat} {recs:List (List Value)} {A c:List bT} {k i:Nat} {b:List Value} {q d:Heap} {pre post:List Value} {t t':TypeId} (u:nP g0 G V T cs bm C recs A k) (hW:Jb q bm recs i b) (hi:i < A.length) (ho:∀ x,x≠bm->d x=q x)
  (I:d bm=some (.cells (pre++b++post).toArray t' (0,0))) (hr:i < recs.length) (X:since g0 G bm=some (.cells (pre++recs[i]++post).toArray t (0,0))) (L:pre.length=i*8) (J:b.length=8) (Y:recs[i].length=8) (K:Row 8 dz d (.slice (some ⟨bm,0,none⟩) A.length C) c):vN c:=by
 obtain⟨r,N,Zx,Gj⟩:=hW;have P:recs[i]=r:=by rw[w_ hr]at N;simpa using N
 have VL:c.length=A.length:=by
  obtain⟨_,_,F,_⟩:=K.len;simp only[Z_]at F;exact F.2.1.symm
 have Zy:∀ j (a:j < recs.length),dP d bm (0+j*8) 8=some (if j=i then b else recs[j]):=λj a=>by
  by_cases e:j=i
  ·subst e;rw[if_pos rfl,Nat.zero_add,<-L];have:=xz I;rw[J]at this;exact this
  rw[if_neg e,vO X I Y J L e];exact(u.row.at (by rw[<-u.row.len];exact a)).choose_spec.1
 have get:∀ j (a:j < c.length) (h:j < recs.length),dz d (if j=i then b else recs[j]) c[j]:=λj a h=>by
  obtain⟨ab,off,vs,M,y,w⟩:=K.get a;simp only[v_,Addr.mk.injEq,and_true]at M;obtain⟨rfl,rfl⟩:=M;rw[Zy j h]at y;simp only[v_]at y;rw[y];exact w
 intro ad w;obtain⟨W,rfl⟩:=List.getElem?_eq_some_iff.1 w;have H:0 < recs.length:=by rw[u.row.len];omega
 have D:∀ ok,ei ok q bm recs->ok c[0].code:=λok g=>by
  obtain⟨s,n,R,⟨r0,E,f⟩,uD,hc,_⟩:=g;have G8:lu ok d s n:=lu.FD (ho s uD) hc;have p:=get 0 W H;have v:(if 0=i then b else recs[0])[5]? = some (.slice (some ⟨s,0,none⟩) n R):=by
   have m:recs[0]=r0:=by rw[w_ H]at E;simpa using E
   by_cases e:0=i
   ·rw[if_pos e,Zx,<-P];subst e;rw[m];exact f
   rw[if_neg e,m];exact f
  obtain⟨Q,S,aa,k',e,_,_,_,_,_,w2,_⟩:=p;rw[e]at v;simp only[List.getElem?_cons_succ,List.getElem?_cons_zero,v_]at v;subst v;exact BV G8 w2
 rcases Gj with g|⟨g,rfl⟩
 ·obtain⟨z,B,e,_,k,_⟩:=D _ g;exact⟨z,B,e,λo=>O⟩
 obtain⟨z,B,e,k⟩:=D _ g;refine⟨z,B,e,λo=>⟨(k o).1,(k o).2.1,(k o).2.2,λn hn=>?_⟩⟩;obtain⟨j,a,rfl⟩:=List.mem_iff_getElem.1 hn;have h:j < recs.length:=by rw[u.row.len];omega
 have p:=get j a h;have m:(if j=i then b else recs[j])=recs[j]:=by
  by_cases e:j=i
  ·subst e;rw[if_pos rfl,P]
  rw[if_neg e]
 rw[m]at p;obtain⟨Q,S,aa,k',e,_⟩:=p;obtain⟨a2,c2,s2,k2,f,_⟩:=(u.row.each j h O).ex;rw[e]at f;simp only[List.cons.injEq,Value.int.injEq,true_and]at f;rw[f.1];exact u.Pd _ (x_ _)
theorem ei.other {ok:List dc->Prop} {h c:Heap} {bm i b:Nat} {recs:List (List Value)} {r:List Value} (f:ei ok h bm recs) (v:recs[i]? = some r) (p:∀ a,N1 i a r->b≠a) (u:∀ x,x≠b->h x≠none->c x=h x):ei ok c bm recs:=by
 obtain⟨a,n,m,e,t,g,d⟩:=f;refine⟨a,n,m,e,t,?_,d⟩;have s:=p a (d i r v);by_cases j:h a=none
 ·obtain⟨y,o,k,w⟩:=g;refine⟨y,o,k,λi q=>?_⟩;have:=w i q;simp[dP,rd,j]at this
 exact lu.FD (u a (λe=>s e.symm) j) g
theorem C6 {h:Heap} {bm b n c a j:Nat} {recs:List (List Value)} {r pre post:List Value} {x:dc} {t:TypeId} (f:ei Kd h bm recs) (D:recs[0]? = some r) (v:r[5]? = some (.slice (some ⟨b,0,none⟩) n c)) (z:h b=some (.cells (pre++cK x++post).toArray t (0,0))) (C:pre.length=0+a*3) (V:a < n) (W:j < 3) (y:Int) :
  ei Kh (h.set b (.cells (pre++(cK x).set j (.int .i64 y)++post).toArray t (0,0))) bm recs:=by
 obtain⟨S,n',T,⟨r',p,q⟩,L,⟨s,H,R,E⟩,K⟩:=f;rw[D]at p;simp only[v_]at p;subst p;rw[v]at q;simp only[v_,Z_,Addr.mk.injEq,and_true]at q;obtain⟨rfl,rfl,rfl⟩:=q;have w:a < s.length:=by omega
 have M:s[a]=x:=by
  have J:=E a w;have g:=xz z;rw[C]at g;have G:(cK x).length=3:=rfl;rw[G,J]at g;simp only[v_]at g;exact zl g
 have N:∃ d:dc,cK d=(cK x).set j (.int .i64 y)/\(j=0->d.a=x.a/\d.b=x.b)/\(j≠0->d.kind=x.kind):=by
  have:j=0\/j=1\/j=2:=by omega
  rcases this with rfl|rfl|rfl
  ·exact⟨⟨y,x.a,x.b⟩,rfl,(λ_=>⟨rfl,rfl⟩),(λh=>absurd rfl h)⟩
  ·exact⟨⟨x.kind,y,x.b⟩,rfl,(λh=>absurd h O),(λ_=>rfl)⟩
  exact⟨⟨x.kind,x.a,y⟩,rfl,(λh=>absurd h O),(λ_=>rfl)⟩
 obtain⟨d,I,P,Q⟩:=N;refine⟨b,n,c,⟨r,D,v⟩,L,⟨s.set a d,by rw[List.length_set];exact H,?_,λi m=>?_⟩,K⟩
 ·obtain⟨o,F,rfl,m,X,Y⟩:=R;by_cases B:a < o.length
  ·refine⟨o.set a d,F,by rw[List.set_append,if_pos B],λh=>O⟩
  have e:a=o.length:=by simp at w;omega
  have u:x=F:=by rw[<-M];simp[e]
  refine⟨o,d,by rw[List.set_append,if_neg B];simp[e],λh=>?_⟩;by_cases A:j=0
  ·have:=P A;rw[u]at this;exact⟨O,O,m⟩
  have:=Q A;rw[u]at this;omega
 rw[List.length_set]at m;by_cases e:i=a
 ·subst e;simp only[List.getElem_set_self];rw[<-C,I];have:=xz (cY h b (.cells (pre++(cK x).set j (.int .i64 y)++post).toArray t (0,0)));rw[List.length_set]at this;exact this
 rw[List.getElem_set_ne (λh=>e h.symm)];rw[vO (sz:=3) (i:=a) z (cY h b _) rfl (by rw[List.length_set];rfl) O e];exact E i m
section
variable {g0 g g1:Heap} {cp:Option Addr} {cc:Nat} {cs:List dB} {bm cm:Nat} {recs:List (List Value)} {A:List bT} {k bb:Nat} {vb:Value} {q0 q:Int} {K:Heap->Prop}
theorem nP.mA {i off:Nat} {c:List Value} {J:bT} (u:nP g0 g cp cc cs bm cm recs A k) (a:uu (since g0 g) (since g0 g1) bm) (m:g1 bm=g bm) (p:i < A.length) (F:lz (since g0 g1) bm c J) (C:zj c) (r:bC g1 bb vb q) (M:bC g0 bb vb q0) (H:q0<=q) (z:g0.le g1) (P:off=0+i*8) (D:Jb (since g0 g1) bm recs i c)
  (B:∀ b d h,g0.le b->bC b bb vb q->Row 8 dz (since g0 b) (.slice (some ⟨bm,0,none⟩) A.length cm) d->eP (since g0 b) (.slice cp cs.length cc) h->(∀ x,x≠bm->b x=g1 x)->vN d->K (cO b bb vb q)):St (cO g1 bb vb q) bm off c K:=by
 obtain⟨I,pre,post,N,e,G,s,t,y⟩:=u.end a m p F C;have L:bb≠bm:=λw=>by have:=r.free;rw[w,e]at this;cases this
 have v:=Heap.aT (o:=Obj.cells (pre++c++post).toArray N (0,0)) z u.fresh.1;obtain⟨⟨d,j⟩,h,E⟩:=y _ rfl;exact j4 r.free e (by simp only[U_];omega) (AU O (by rw[s,t])) (B _ d h v (M.to v (by simp[Heap.set,L,r.free]) H) j E (λx f=>by simp[Heap.set,f]) (KU u D p (λx f=>by rw[fU u.fresh.1];simp[Heap.set,f]) (by rw[fU u.fresh.1];exact cY _ _ _) I (by rw[ef u.fresh.1,<-m];exact e) G s t j))
theorem nP.TU {b off i:Nat} {pre x post:List Value} {t:TypeId} {y z:Int} (h0:g0.le g) (r:bC g bb vb q) (B:bC g0 bb vb q0) (u:q0<=q) (c:since g0 g b=some (.cells (pre++x++post).toArray t (0,0))) (f:b≠bm) (s:off=pre.length+i) (h:x[i]? = some (.int .i64 z)) (v:cy y)
  (m:∀ g1,g0.le g1->bC g1 bb vb q->sM (since g0 g) (since g0 g1)->g1 bm=g bm->since g0 g1=(since g0 g).set b (.cells (pre++x.set i (.int .i64 y)++post).toArray t (0,0))->K (cO g1 bb vb q)):St (cO g bb vb q) b off [.int .i64 y] K:=by
 obtain⟨a,d⟩:=dU c;have w:bb≠b:=λe=>by have:=r.free;rw[e,d]at this;cases this
 have p:=(List.getElem?_eq_some_iff.1 h).1;have j:=Heap.aT (o:=Obj.cells (pre++x.set i (.int .i64 y)++post).toArray t (0,0)) h0 a;refine j4 r.free d (by simp only[U_,List.length_cons,List.length_nil];omega) (kg s p) (m _ j (B.to j (by simp[Heap.set,w,r.free]) u) ?_ (by simp[Heap.set,λe=>f (Eq.symm e)];intro e;exact absurd e.symm f) (fU a));rw[fU a];exact HR c h v
theorem nP.Zz {b off:Nat} {pre post:List Value} {t:TypeId} {L m:Bool} {H I:Option Addr} {E F p s:Nat} {c d:Value} {C D:List Int} (h0:g0.le g) (r:bC g bb vb q) (J:bC g0 bb vb q0) (z:q0<=q) (f:since g0 g b=some (.cells (pre++[Value.bool L,.slice H E p,.slice I F s]++post).toArray t (0,0))) (i:b≠bm) (y:off=pre.length) (u:bP (since g0 g) c C) (v:bP (since g0 g) d D)
  (w:∀ g1,g0.le g1->bC g1 bb vb q->sM (since g0 g) (since g0 g1)->g1 bm=g bm->(∀ x,x≠b->since g0 g1 x=since g0 g x)->K (cO g1 bb vb q)):St (cO g bb vb q) b off [.bool m,c,d] K:=by
 obtain⟨a,h⟩:=dU f;have G:bb≠b:=λe=>by have:=r.free;rw[e,h]at this;cases this
 have j:=Heap.aT (o:=Obj.cells (pre++[Value.bool m,c,d]++post).toArray t (0,0)) h0 a;refine j4 r.free h (by simp only[U_,List.length_cons,List.length_nil];omega) (AU y rfl) (w _ j (J.to j (by simp[Heap.set,G,r.free]) z) ?_ (by simp[Heap.set,λe=>i (Eq.symm e)];intro e;exact absurd e.symm i) (λx B=>by rw[fU a];simp[Heap.set,B]));rw[fU a];exact y9 f u v
end
theorem BY {g:Heap} {a:Nat} {vb:Value} {q:Int} {bytes sz:Nat} {zero:List Value} {j:TypeId} {p:Option Addr} {n cap m:Nat} {vs f:List Value} {K:Value->Heap->Prop} (r:bC g a vb q) (A:cap < n+m) (v:(n+m)*bytes<=2 ^ 44) (w:n+m<=2 ^ 44) (s:(p=none/\n=0/\f=[])\/∃ b off,p=some ⟨b,off,none⟩/\dP g b off (n*sz)=some f)
  (y:∀ b c h,g b=none->b≠a->g.le h->bC h a vb q->n+m<=c->h b=some (.cells (f++vs++(List.replicate (c-(n+m)) zero).flatten).toArray j (0,0))->K (.slice (some ⟨b,0,none⟩) (n+m) c) (cO h a vb q)):App bytes sz zero j (cO g a vb q) p n cap m vs K:=by
 rw[lG];unfold vV;refine⟨λz=>O,λ_=>⟨v,w,f,?_,λb c d x=>?_⟩⟩
 ·rcases s with ⟨rfl,o,u⟩|⟨b,off,rfl,o⟩
  ·exact⟨o,u⟩
  exact dD (eE r.free) o
 have e:b≠a:=by
  rintro rfl;obtain⟨B,s⟩:=ng g b vb q;rw[s]at d;cases d
 rw[fH e]at d;have t:g.le (g.set b (.cells (f++vs++(List.replicate (c-(n+m)) zero).flatten).toArray j)):=Heap.aT (z_ g) d;rw[xm e];exact y b c _ d e t (r.to t (by simp[Heap.set,λi=>e (Eq.symm i),r.free];intro i;exact absurd i.symm e) (Int.le_refl _)) x (cY _ _ _)
open Go.Vc Go.Proofs.Tryz
set_option maxRecDepth 100000
set_option maxHeartbeats 4000000
theorem HS {G:Heap} {f:Option Addr} {a g:Nat} {l:List je} (C:Row 4 zZ G (.slice f a g) l) (A:(Value.slice f a g=.slice none 0 0/\l=[])\/∃ j,Value.slice f a g=.slice (some ⟨j,0,none⟩) 1 1/\l.length=1) :
  g < a+1/\a<=1/\∃ s,((f=none/\a=0/\s=[])\/∃ b off,f=some ⟨b,off,none⟩/\dP G b off (a*4)=some s) /\
   ∀(h:Heap) (b c:Nat) (rest:List Value) (t:TypeId) (z:je),h b=some (.cells (s++sx z++rest).toArray t (0,0))->a+1<=c->rest.length=(c-(a+1))*4->cy z.lo/\cy z.hi/\cy z.to/\cy z.cls->∃ E,Row 4 zZ h (.slice (some ⟨b,0,none⟩) (a+1) c) E:=by
 rcases A with ⟨e,rfl⟩|⟨j,e,B⟩
 ·simp only[Z_]at e;obtain⟨rfl,rfl,rfl⟩:=e;refine⟨O,O,[],.inl ⟨rfl,rfl,rfl⟩,λh b c rest t z m o D q=>⟨[z],?_⟩⟩;have p:bY 4 h (.slice (some ⟨b,0,none⟩) (0+1) c) ([z].map sx) [b]:=⟨λy d=>by obtain⟨w,_,rfl⟩:=List.mem_map.1 d;rfl,.inr ⟨b,c,rest,t,Z,by simpa using o,by simpa using m,by simp[sx];omega,rfl⟩⟩
  exact p.xq Z λy d=>⟨rfl,by rw[V_.1 d];exact q⟩
 simp only[Z_]at e;obtain⟨rfl,rfl,rfl⟩:=e;obtain⟨w,rfl⟩:∃ w,l=[w]:=by
  match l,B with
  | [w],_=>exact⟨w,rfl⟩
 obtain⟨H,off,I,u,v,x⟩:=C.get (i:=0) Z;simp only[v_,Addr.mk.injEq,and_true]at u;obtain⟨rfl,rfl⟩:=u;obtain⟨rfl,F⟩:=x;refine⟨O,O,sx w,.inr ⟨j,0,rfl,by simpa [sx]using v⟩,λh b c rest t z m o D q=>⟨[w,z],?_⟩⟩;have p:bY 4 h (.slice (some ⟨b,0,none⟩) (1+1) c) ([w,z].map sx) [b]:=⟨λy d=>by obtain⟨w,_,rfl⟩:=List.mem_map.1 d;rfl,.inr ⟨b,c,rest,t,Z,by simpa using o,by simpa using m,by simp[sx];omega,rfl⟩⟩
 refine p.xq Z λy d=>⟨rfl,?_⟩
 simp only[List.mem_cons,List.not_mem_nil,or_false]at d;rcases d with rfl|rfl
 ·exact F
 exact q
theorem HT {sz:Nat} {b off c:Nat} {K:Option Addr->Prop} (a:∀ d,(1 < c->d=off+sz)->K (some ⟨b,d,none⟩)) (j:0 < c) (m:0 < sz):Sub (some ⟨b,off,none⟩) c 1 sz K:=by
 refine sub λo g h=>?_;by_cases e:c=1
 ·rw[h e];exact a _ (λi=>O)
 rw[g e];have:(Option.map (λf=>Addr.add f (1*sz)) (some ⟨b,off,none⟩):Option Addr)=some ⟨b,off+sz,none⟩:=by
  simp only[Option.map_some,Addr.add];rw[if_neg O,Nat.one_mul]
 rw[this];exact a _ (λ_=>rfl)
theorem C7 {j:Type} {sz:Nat} {R:Heap->List Value->j->Prop} {h:Heap} {b off a n c:Nat} {l:List j} (q:Row sz R h (.slice (some ⟨b,off,none⟩) n c) l) (o:1 < c->a=off+sz):Row sz R h (.slice (some ⟨b,a,none⟩) (n-1) (c-1)) (l.drop 1):=by
 obtain⟨w,A,v,e,y,p⟩:=q;simp only[Z_]at e;obtain⟨rfl,rfl,rfl⟩:=e;refine⟨by simp;omega,some ⟨b,a,none⟩,c-1,Z,by simp;omega,?_⟩;by_cases e:l.length<=1
 ·exact .inl (List.drop_eq_nil_of_le e)
 rcases p with rfl|⟨u,z,f,s⟩
 ·simp at e
 simp only[v_,Addr.mk.injEq,and_true]at f;obtain⟨rfl,rfl⟩:=f;refine .inr ⟨b,a,rfl,λi x g=>?_⟩;obtain⟨t,d,m⟩:=s (i+1) x (by rw[List.getElem?_drop]at g;rw[Nat.add_comm];exact g);refine⟨t,?_,m⟩;rw[o O];rw[Nat.succ_mul]at d;rw[show off+sz+i*sz=off+(i*sz+sz)by omega];exact d
theorem C8 {g0 g:Heap} {s bm:Nat} {vb:Value} {X q:Int} {H:TypeId} {p:Option Addr} {n cap m:Nat} {l:List Int} {vs:List Value} {y:Int} {K:Value->Heap->Prop} (h0:g0.le g) (r:bC g s vb q) (r0:bC g0 s vb X) (hq:X<=q) (d:nY (aV (since g0 g) bm) (.slice p n cap) l) (hl:l.length<=100) (Cf:vs=[.int .i64 y]) (hm:m=1) (T:cy y) (LH:∃ o,g bm=some o)
  (Q:∀ f W G l',g0.le f->bC f s vb q->sM (since g0 g) (since g0 f)->f bm=g bm->bP (since g0 f) (.slice W (n+1) G) l'->((since g0 g).le (since g0 f)\/∃ b o,p=some ⟨b,o,none⟩/\∀ x,x≠b->since g0 f x=since g0 g x)->K (.slice W (n+1) G) (cO f s vb q)):App 8 1 [.int .i64 0] H (cO g s vb q) p n cap m vs K:=by
 subst Cf hm;obtain⟨ob,S⟩:=LH;have A:n=l.length:=by
  obtain⟨_,_,e⟩:=d.form;simp only[Z_]at e;exact e.2.1
 have mC:∀ x∈l,cy x:=by
  obtain⟨F,d⟩:=d;rcases d with ⟨_,rfl,_⟩|⟨c,r,t,_,_,u,_⟩
  ·simp
  exact λx j=>u x (by simp[j])
 have N:∀ x∈l++[y],cy x:=λx j=>by
  simp only[u_,V_]at j;rcases j with j|rfl
  ·exact mC x j
  exact T
 by_cases L:cap < n+1
 ·have hold:(p=none/\n=0/\l.map (Value.int .i64)=[])\/∃ b V,p=some ⟨b,V,none⟩/\dP g b V (n*1)=some (l.map (Value.int .i64)):=by
   obtain⟨F,d⟩:=d;rcases d with ⟨e,rfl,_⟩|⟨c,r,t,e,i,_,_⟩
   ·simp only[Z_]at e;exact .inl ⟨e.1,e.2.1,rfl⟩
   simp only[Z_]at e;refine .inr ⟨c,0,e.1,dD (aO g0 g) (dD (fk _ bm) ?_)⟩;rw[bA i (n*1) 0 (by simp;omega),List.map_append,List.drop_zero,List.take_left' (by simp[A])]
  refine BY r L O O hold (λb c I i v hle r' I2 hg=>?_);have w:since g0 I b=some (.cells ((l++[y]).map (Value.int .i64)++(List.replicate (c-(n+1)) [Value.int .i64 0]).flatten).toArray H (0,0)):=by
   rw[ef (aW h0 i),hg];simp
  have u:=gA w (by simp;omega) (c:=c) (by simp;omega) N;have B:(l++[y]).length=n+1:=by simp[A]
  rw[B]at u;exact Q I _ c (l++[y]) (y_ h0 hle) r' (sM.of_le (bI g0 hle)) (by rw[S];exact hle _ _ S) u (.inl (bI g0 hle))
 obtain⟨F,d⟩:=d;rcases d with ⟨e,rfl,_⟩|⟨c,E,t,e,i,u,_⟩
 ·simp only[Z_]at e;omega
 simp only[Z_]at e;obtain⟨rfl,_,rfl⟩:=e;have D:c≠bm:=by
  rintro rfl;simp[aV]at i
 have J:since g0 g c=some (.cells ((l++E).map (Value.int .i64)).toArray t (0,0)):=by
  unfold aV at i;rw[if_neg D]at i;exact i
 obtain⟨M,C⟩:=dU J;have v:c≠s:=by rintro rfl;rw[r.free]at C;cases C
 obtain⟨z,a,rfl⟩:∃ z a,E=z::a:=by
  cases E with
  | nil=>simp at L;omega
  | cons z a=>exact⟨z,a,rfl⟩
 have ew:eH ((l++z::a).map (Value.int .i64)) (0+n*1) [Value.int .i64 y]=((l++[y])++a).map (Value.int .i64):=by
  have:=fE [Value.int .i64 y] (l.map (Value.int .i64)) ((z::a).map (Value.int .i64)) Z;rw[List.map_append,show 0+n*1=(l.map (Value.int .i64)).length by simp[A],this];simp
 have Y:((l++[y])++a).map (Value.int .i64)=((l++z::a).map (Value.int .i64)).set l.length (.int .i64 y):=by
  simp[List.set_append]
 rw[lG];unfold vV;refine⟨λ_=>⟨rfl,?_⟩,λh=>O⟩;refine⟨_,t,by rw[fH v];exact C,by simp;omega,?_⟩;have R:=Heap.aT (o:=Obj.cells (((l++[y])++a).map (Value.int .i64)).toArray t (0,0)) h0 M;have w:since g0 (g.set c (.cells (((l++[y])++a).map (Value.int .i64)).toArray t (0,0)))=(since g0 g).set c (.cells (((l++[y])++a).map (Value.int .i64)).toArray t (0,0)):=fU M;have P:=gA (h:=since g0 (g.set c (.cells (((l++[y])++a).map (Value.int .i64)).toArray t (0,0)))) (b:=c) (c:=(l++z::a).length) (l:=l++[y]) (rest:=a.map (Value.int .i64)) (t:=t) (fz:=(0,0)) (by rw[w,cY,List.map_append]) (by simp;omega) Z N;have B:(l++[y]).length=n+1:=by simp[A]
 rw[B]at P;simp only[List.toList_toArray];rw[ew,xm v];refine Q _ _ _ (l++[y]) R (r0.to R (by simp[Heap.set,λe=>v (Eq.symm e),r.free];intro e;exact absurd e.symm v) hq) ?_ (by simp[Heap.set,λe=>D (Eq.symm e)];intro e;exact absurd e.symm D) P (.inr ⟨c,0,rfl,λx j=>by rw[w];simp[Heap.set,j]⟩);rw[w,Y];exact rV (x:=z) (cs:=(l++z::a).map (Value.int .i64)) J Z T
theorem FN {b:Type} (k:Nat) (z:List b):(List.replicate k z).flatten.length=k*z.length:=by
 induction k with
 | zero=>simp
 | succ k a=>rw[List.replicate_succ,List.flatten_cons,U_,a,Nat.succ_mul];omega
theorem AW {h b:Heap} {bm i a n c d m:Nat} {recs:List (List Value)} {r pre post:List Value} {x:dc} {t:TypeId} {y:Int} (f:ei Kd h bm recs) (g:recs[i]? = some r) (e:r[5]? = some (.slice (some ⟨a,0,none⟩) n c)) (q:h a=some (.cells (pre++cK x++post).toArray t (0,0))) (v:pre.length=0+d*3) (p:d < n) (u:m < 3)
  (j:b=h.set a (.cells (pre++(cK x).set m (.int .i64 y)++post).toArray t (0,0))):ei Kd b bm recs\/ei Kh b bm recs/\r=r:=by
 by_cases s:i=0
 ·subst s;exact .inr ⟨by rw[j];exact C6 f g e q v p u y,rfl⟩
 exact .inl (f.other g (λz o=>o.2.1 O _ e _ _ _ _ rfl) λx w _=>by rw[j];simp[Heap.set,w])
theorem HU {G:Heap} {bm:Nat} {f g h i:Int} {a b c s k:Value} {m:bT} {l:List Int} (d:lz G bm [.int .i64 f,.int .i64 g,a,.int .i64 h,.int .i64 i,c,s,k] m) (v:bP G b l):lz G bm [.int .i64 f,.int .i64 g,b,.int .i64 h,.int .i64 i,c,s,k] {m with args:=l}:=by
 refine⟨?_,λF H L I J j B n o A e=>d.at_ F H a I J j B n o A ?_⟩
 ·obtain⟨K,M,P,N,e,w,x,y,z,Q,C,D,E⟩:=d.read;simp only[List.cons.injEq,and_true]at e;obtain⟨p,q,rfl,t,u,rfl,rfl,rfl⟩:=e;exact⟨b,_,_,_,by rw[p,q,t,u],w,x,y,z,v,C,D,E⟩
 simp only[List.cons.injEq,and_true]at e ⊢;exact⟨e.1,e.2.1,trivial,e.2.2.2⟩
theorem lz.le {g a:Heap} {bm:Nat} {c:List Value} {m:bT} (d:g.le a) (b:lz g bm c m):lz a bm c m:=⟨b.read.le d,b.at_⟩
theorem C9 {g0 s:Heap} {S:Nat} {vb:Value} {q0 p:Int} {cp:Option Addr} {cc:Nat} {cs:List dB} {bm cm:Nat} {recs:List (List Value)} {A:List bT} (t:bC g0 S vb q0) (r:bC s S vb p) (hq:q0<=p) (hp:p<=50000000) (h0:g0.le s) (nz:KP (since g0 s)) (u:nP g0 s cp cc cs bm cm recs A A.length) :
  VJ prog 116 [.pointer (some ⟨S,0,none⟩),.agg #[.slice cp cs.length cc,.slice (some ⟨bm,0,none⟩) A.length cm]] g0 s S vb p 1000 λg' v=>∃ us u',v=.agg ⟨us⟩/\dn g' us u'/\vN u'.methods:=by
 have Hy:=u.num;have YB:=u.ok.1;have sH:=u.ok.2.1;have Aq:∃ af,s bm=some af:=u.fresh.2;refine bE ax func116 SP U rfl ?_;conv=>whnf
 refine bN r O (λk k0 k1 k2 r1=>?_);have E:k.toNat < A.length:=by omega
 have L:=u.row.at E;obtain⟨VM,e3,hf,_⟩:=L;have md:=u.mid k.toNat VM E;have VN:decide (k.toNat < A.length)=true:=by simp[E]
 rw[VN]at md;have hw:=md.wh rfl;obtain⟨⟨ZA,TV⟩,NI,MF,ah,bc,kc,bs,ks,kv,aa,⟨NL,T⟩,LK⟩:=hw;have I8:=md.head;clear md;have Q:=hf.AV;have hex:=hf.ex;have q:recs[k.toNat]? = some recs[k.toNat]:=w_ VM;have G:=u.fst O;rw[aa]at hex Q e3 q;clear aa hf VN;generalize A[k.toNat]=C at ZA TV NI MF LK I8 Q hex e3 q;obtain⟨a',c',s',k',e',w,x,y,z,⟨az,an⟩,V,R,rk,_⟩:=hex;simp only[List.cons.injEq,and_true,true_and]at e';obtain⟨rfl,rfl,rfl,rfl⟩:=e';have L:=az.form;obtain⟨ap,ac,rfl⟩:=L;have TO:∃ p n ag,kv=Value.slice p n ag:=by
  rcases LK with ⟨rfl,_⟩|⟨bk,rfl,_⟩
  ·exact⟨_,_,_,rfl⟩
  exact⟨_,_,_,rfl⟩
 obtain⟨pk,nk,ck,rfl⟩:=TO;have KV:=HS rk LK;have LJ:C.aF.length<=ks:=by
  obtain⟨_,_,e3,h4,_⟩:=R.len;simp only[Z_]at e3;omega
 have si:=I8.2.2.2.2.1;have Lz:0<=C.locals:=by have:=I8.2.2.2.2.2;omega
 have Ph:dP (cO s S vb (p+1)) bm (0+k.toNat*8) 8=some _:=dD (eE r1.free) (dD (aO _ _) e3);conv=>whnf
 refine ay ?_;conv=>whnf
 refine ptr ?_;conv=>whnf
 refine dZ Ph ?_;conv=>whnf
 refine bN r1 O (λY a0 a1 a2 r2=>?_);have wX:Y.toNat < C.code.length:=by omega
 have TW:Y.toNat < C.aF.length:=by omega
 have L:=vM V nz O wX;obtain⟨b1,o1,Xi,ZB,VO,t1,BC,hf1,vr,Da,Db,IY,IA⟩:=L;simp only[v_,Addr.mk.injEq,and_true]at BC;obtain⟨rfl,rfl⟩:=BC;obtain⟨rfl,j1,j2,j3⟩:=IA;have L:=vM R nz O TW;obtain⟨b2,o2,Xj,ZC,Ew,t2,Dw,hf2,sG,TX,TY,Vf,Jy⟩:=L;simp only[v_,Addr.mk.injEq,and_true]at Dw;obtain⟨rfl,rfl⟩:=Dw;obtain⟨sv1,sv2,rfl,TZ,T0⟩:=Jy;have L:=TZ.len;obtain⟨_,_,rfl,_,_⟩:=L;have L:=T0.len;obtain⟨_,_,rfl,_,_⟩:=L;have LM:bP (since g0 s) (.slice ap C.args.length ac) C.args:=(az.ints O).le (fk _ _);have Od:sM (since g0 s) (since g0 s):=sM.of_le (z_ _);conv=>whnf
 refine bN r2 O (λab x0 x1 x2 o=>?_);conv=>whnf
 apply aC<;>intro c0;all_goals conv=>whnf
 ·have ja:rd (cO s S vb (p+1+1+1)) bc (0+Y.toNat*3+1)=some (.int .i64 C.code[Y.toNat].a):=cW (eE o.free) (cW (aO _ _) (aJ IY (i:=1) rfl));have jb:rd (cO s S vb (p+1+1+1+1)) bc (0+Y.toNat*3+1)=some (.int .i64 C.code[Y.toNat].a):=cW (eE o.free) (cW (aO _ _) (aJ IY (i:=1) rfl));repeat' ((first|exact trivial|apply T_|refine ld ja ?_|refine ld jb ?_|refine bN o O (λD W N X M=>?_)|refine ay ?_|refine ptr ?_|refine zW ?_)<;>conv=>whnf)
  all_goals
   refine nP.TU h0 (bC.on o O) t O Da NL (i:=1) (by rw[Db]) rfl (FL _) (λP B I F FO uQ=>?_);conv=>whnf
   refine(Q.FM F).elim λm2 m=>?_;refine ay ?_;conv=>whnf
   refine ptr ?_;conv=>whnf
   refine u.mA (F.AV bm) FO E m (gx w x y z) I t O B rfl ⟨_,q,rfl,(AW G q rfl Da Db wX (by decide) uQ)⟩ (λJ c j f g d h K e=>?_);conv=>whnf
   exact⟨_,_,rfl,f,g.free,O,O,_,⟨j,c⟩,rfl,⟨_,_,rfl,h.le (aO _ _) (λ_ _ a=>a.le (aO _ _)),d.le (aO _ _) (λ_ _ a=>a.le (aO _ _))⟩,e⟩
 apply aC<;>intro c1;all_goals conv=>whnf
 ·refine bN o O (λD W N X M=>?_);conv=>whnf
  refine av ?_;conv=>whnf
  refine ay ?_;conv=>whnf
  refine ptr ?_;conv=>whnf
  refine nP.TU h0 (bC.on o O) t O Da NL (i:=2) (by rw[Db]) rfl (by unfold cy;omega) (λP B I F FO uQ=>?_);conv=>whnf
  refine(Q.FM F).elim λm2 m=>?_;refine ay ?_;conv=>whnf
  refine ptr ?_;conv=>whnf
  refine u.mA (F.AV bm) FO E m (gx w x y z) I t O B rfl ⟨_,q,rfl,(AW G q rfl Da Db wX (by decide) uQ)⟩ (λJ c j f g d h K e=>?_);conv=>whnf
  exact⟨_,_,rfl,f,g.free,O,O,_,⟨j,c⟩,rfl,⟨_,_,rfl,h.le (aO _ _) (λ_ _ a=>a.le (aO _ _)),d.le (aO _ _) (λ_ _ a=>a.le (aO _ _))⟩,e⟩
 apply aC<;>intro c2;all_goals conv=>whnf
 ·refine bN o O (λD W N X M=>?_);conv=>whnf
  refine ay ?_;conv=>whnf
  refine ptr ?_;conv=>whnf
  refine nP.TU h0 (bC.on o O) t O Da NL (i:=0) (by rw[Db]) rfl (by unfold cy;omega) (λP B I F FO uQ=>?_);conv=>whnf
  refine(Q.FM F).elim λm2 m=>?_;refine ay ?_;conv=>whnf
  refine ptr ?_;conv=>whnf
  refine u.mA (F.AV bm) FO E m (gx w x y z) I t O B rfl ⟨_,q,rfl,(AW G q rfl Da Db wX (by decide) uQ)⟩ (λJ c j f g d h K e=>?_);conv=>whnf
  exact⟨_,_,rfl,f,g.free,O,O,_,⟨j,c⟩,rfl,⟨_,_,rfl,h.le (aO _ _) (λ_ _ a=>a.le (aO _ _)),d.le (aO _ _) (λ_ _ a=>a.le (aO _ _))⟩,e⟩
 apply aC<;>intro c3;all_goals conv=>whnf
 ·refine ia o (AR cs.length C.locals o O h0 O O) (λv P q4 B I NV NW b=>?_);refine b.elim λtv b=>b.elim λp5 b=>b.elim λn5 b=>b.elim λc5 b=>b.elim λp6 b=>b.elim λn6 b=>b.elim λc6 b=>b.elim λl5 b=>b.elim λl6 b=>?_;have hv:=b.1;subst hv;have N7:=y_ h0 B;have lm:=bI g0 B;conv=>whnf
  refine ay ?_;conv=>whnf
  refine ptr ?_;conv=>whnf
  refine nP.Zz (bm:=bm) N7 I t O (lm _ _ TX) T (by rw[TY]) b.2.1 b.2.2 (λg6 l6 r6 F C4 T1=>?_);conv=>whnf
  refine(Q.FM (sM.trans (sM.of_le lm) F)).elim λm2 m=>?_;refine ay ?_;conv=>whnf
  refine ptr ?_;conv=>whnf
  refine(u.aK B).mA (F.AV bm) C4 E m (gx w x y z) r6 t O l6 rfl ⟨_,q,rfl,(.inl ((ei.le lm G).other q (λad ha=>ha.2.2 _ rfl _ _ _ _ rfl) λab a _=>T1 ab a))⟩ (λJ c j f g d h K e=>?_);conv=>whnf
  exact⟨_,_,rfl,f,g.free,O,O,_,⟨j,c⟩,rfl,⟨_,_,rfl,h.le (aO _ _) (λ_ _ a=>a.le (aO _ _)),d.le (aO _ _) (λ_ _ a=>a.le (aO _ _))⟩,e⟩
 apply aC<;>intro c4;all_goals conv=>whnf
 ·refine ay ?_;conv=>whnf
  refine HT (λz6 ho=>?_) O (by decide);conv=>whnf
  have m:lz (since g0 s) bm _ {C with aF:=C.aF.drop 1}:=C5 ⟨_,_,_,_,rfl,w,x,y,z,LM,V,C7 R ho,rk⟩ T;refine ay ?_;conv=>whnf
  refine ptr ?_;conv=>whnf
  refine u.mA (Od.AV bm) rfl E m (gx w x y z) o t O h0 rfl ⟨_,q,rfl,(.inl G)⟩ (λJ c j f g d h K e=>?_);conv=>whnf
  exact⟨_,_,rfl,f,g.free,O,O,_,⟨j,c⟩,rfl,⟨_,_,rfl,h.le (aO _ _) (λ_ _ a=>a.le (aO _ _)),d.le (aO _ _) (λ_ _ a=>a.le (aO _ _))⟩,e⟩
 apply aC<;>intro c5;all_goals conv=>whnf
 ·refine bN o O (λD W N X M=>?_);conv=>whnf
  have H:cy D:=by unfold cy;omega
  have m:lz (since g0 s) bm _ {C with locals:=D}:=C5 ⟨_,_,_,_,rfl,w,x,y,H,LM,V,R,rk⟩ T;refine ay ?_;conv=>whnf
  refine ptr ?_;conv=>whnf
  refine u.mA (Od.AV bm) rfl E m (gx w x y H) M t O h0 rfl ⟨_,q,rfl,(.inl G)⟩ (λJ c j f g d h K e=>?_);conv=>whnf
  exact⟨_,_,rfl,f,g.free,O,O,_,⟨j,c⟩,rfl,⟨_,_,rfl,h.le (aO _ _) (λ_ _ a=>a.le (aO _ _)),d.le (aO _ _) (λ_ _ a=>a.le (aO _ _))⟩,e⟩
 apply aC<;>intro c6;all_goals conv=>whnf
 ·refine ia o (ry cs.length o O O) (λv P q4 B I NV NW b=>?_);obtain⟨rfl,D,rfl,W,N⟩:=b;conv=>whnf
  have H:cy D:=by unfold cy;omega
  have m:lz (since g0 P) bm _ {C with out:=D}:=C5 ⟨_,_,_,_,rfl,w,x,H,z,LM,V,R,rk⟩ T;refine ay ?_;conv=>whnf
  refine ptr ?_;conv=>whnf
  refine u.mA (Od.AV bm) rfl E m (gx w x H z) I t O h0 rfl ⟨_,q,rfl,(.inl G)⟩ (λJ c j f g d h K e=>?_);conv=>whnf
  exact⟨_,_,rfl,f,g.free,O,O,_,⟨j,c⟩,rfl,⟨_,_,rfl,h.le (aO _ _) (λ_ _ a=>a.le (aO _ _)),d.le (aO _ _) (λ_ _ a=>a.le (aO _ _))⟩,e⟩
 apply aC<;>intro c7;all_goals conv=>whnf
 ·refine KV.2.2.elim λsr Jc=>?_;have hnk:=KV.2.1;refine bN o O (λN y10 y11 y12 ZD=>?_);conv=>whnf
  refine bN ZD O (λX y20 y21 y22 ZE=>?_);conv=>whnf
  refine bN ZE O (λy3 y30 y31 y32 ZF=>?_);conv=>whnf
  refine bN ZF O (λy4 y40 y41 y42 ZG=>?_);conv=>whnf
  refine BY ZG KV.1 (by show(nk+1)*32<=2 ^ 44;omega) O (Jc.1.imp id (λ⟨ad,off,aa,ae⟩=>⟨ad,off,aa,dD (aO g0 s) ae⟩)) (λb5 c5 g5 wB ZH l5 M sH ZI=>?_);have TQ:=y_ h0 l5;have ls:=bI g0 l5;have Dc:=Jc.2 (since g0 g5) b5 c5 _ _ ⟨N,X,y3,y4⟩ (by rw[ef (aW h0 wB)];exact ZI) sH (FN _ _) (by simp only;unfold cy;omega);conv=>whnf
  refine Dc.elim λl' Dc=>?_;have m:lz (since g0 g5) bm _ {C with catches:=l' }:=C5 ⟨_,_,_,_,rfl,w,x,y,z,LM.le ls,V.le ls (λ_ _ a=>a),R.le ls (λ_ _ a=>a.le ls),Dc⟩ T;refine ay ?_;conv=>whnf
  refine ptr ?_;conv=>whnf
  refine(u.aK l5).mA ((sM.of_le (z_ _)).AV bm) rfl E m (gx w x y z) M t O TQ rfl ⟨_,q,rfl,(.inl (ei.le ls G))⟩ (λJ c j f g d h K e=>?_);conv=>whnf
  exact⟨_,_,rfl,f,g.free,O,O,_,⟨j,c⟩,rfl,⟨_,_,rfl,h.le (aO _ _) (λ_ _ a=>a.le (aO _ _)),d.le (aO _ _) (λ_ _ a=>a.le (aO _ _))⟩,e⟩
 apply aC<;>intro c8;all_goals conv=>whnf
 ·refine bN o O (λD W N X M=>?_);conv=>whnf
  refine av ?_;conv=>whnf
  have H:cy (D-2):=by unfold cy;omega
  have m:lz (since g0 s) bm _ {C with cls:=D-2}:=C5 ⟨_,_,_,_,rfl,H,x,y,z,LM,V,R,rk⟩ T;refine ay ?_;conv=>whnf
  refine ptr ?_;conv=>whnf
  refine u.mA (Od.AV bm) rfl E m (gx H x y z) M t O h0 rfl ⟨_,q,rfl,(.inl G)⟩ (λJ c j f g d h K e=>?_);conv=>whnf
  exact⟨_,_,rfl,f,g.free,O,O,_,⟨j,c⟩,rfl,⟨_,_,rfl,h.le (aO _ _) (λ_ _ a=>a.le (aO _ _)),d.le (aO _ _) (λ_ _ a=>a.le (aO _ _))⟩,e⟩
 apply aC<;>intro c9;all_goals conv=>whnf
 ·refine bN o O (λD W N X M=>?_);conv=>whnf
  have H:cy D:=by unfold cy;omega
  have m:lz (since g0 s) bm _ {C with eu:=D}:=C5 ⟨_,_,_,_,rfl,w,H,y,z,LM,V,R,rk⟩ T;refine ay ?_;conv=>whnf
  refine ptr ?_;conv=>whnf
  refine u.mA (Od.AV bm) rfl E m (gx w H y z) M t O h0 rfl ⟨_,q,rfl,(.inl G)⟩ (λJ c j f g d h K e=>?_);conv=>whnf
  exact⟨_,_,rfl,f,g.free,O,O,_,⟨j,c⟩,rfl,⟨_,_,rfl,h.le (aO _ _) (λ_ _ a=>a.le (aO _ _)),d.le (aO _ _) (λ_ _ a=>a.le (aO _ _))⟩,e⟩
 apply aC<;>intro U1;all_goals conv=>whnf
 ·refine ia o (ry cs.length o O O) (λv P q4 B I NV NW b=>?_);obtain⟨rfl,D,rfl,W,N⟩:=b;conv=>whnf
  have H:cy D:=by unfold cy;omega
  refine C8 (bm:=bm) h0 I t O az an rfl rfl H Aq (λg6 p6 c6 l6' l6 r6 F C4 oh T1=>?_);conv=>whnf
  refine(Q.FM F).elim λm2 T2=>?_;have m:=HU T2 oh;refine ay ?_;conv=>whnf
  refine ptr ?_;conv=>whnf
  refine u.mA (F.AV bm) C4 E m (gx w x y z) r6 t O l6 rfl ⟨_,q,rfl,(.inl (T1.elim (λae=>ei.le ae G) λ⟨ad,af,aa,a⟩=>G.other q (λbc ha=>ha.1 _ rfl _ _ _ _ (by rw[aa])) λab hn _=>a ab hn))⟩ (λJ c j f g d h K e=>?_);conv=>whnf
  exact⟨_,_,rfl,f,g.free,O,O,_,⟨j,c⟩,rfl,⟨_,_,rfl,h.le (aO _ _) (λ_ _ a=>a.le (aO _ _)),d.le (aO _ _) (λ_ _ a=>a.le (aO _ _))⟩,e⟩
 refine ia o (Fx o O (z_ _)) (λv P q4 B I NV NW b=>?_);refine b.elim λp5 b=>b.elim λn5 b=>b.elim λc5 b=>b.elim λl5 b=>?_;have hv:=b.1;subst hv;have N7:=y_ h0 B;conv=>whnf
 refine ay ?_;conv=>whnf
 refine ptr ?_;conv=>whnf
 refine(u.aK B).mA ((sM.of_le (z_ _)).AV bm) rfl E (Q.le (bI g0 B)) (gx w x y z) I t O N7 rfl ⟨_,q,rfl,.inl (ei.le (bI g0 B) G)⟩ (λJ c j f g d h K e=>?_);conv=>whnf
 have lg:(since s P).le J:=λab af a=>by
  obtain⟨h1,h2⟩:=dU a;rw[K ab (by rintro rfl;obtain⟨o',ZJ⟩:=Aq;rw[ZJ]at h1;cases h1)];exact h2
 exact⟨_,_,rfl,f,g.free,O,O,_,⟨l5,c⟩,rfl,⟨_,_,rfl,b.2.le lg (λ_ _ a=>a.le lg),d.le (aO _ _) (λ_ _ a=>a.le (aO _ _))⟩,e⟩
theorem FP {P:Program} {f:FuncId} {args:List Value} {d g:Heap} {R:Value->Heap->Prop} (s:d.le g) (D:bq P f args d R) :
  bq P f args g λv e=>∃ i,R v i/\(∀ x,d x=none->g x≠none->e x=g x)/\(∀ x,d x≠none\/g x=none->e x=i x)/\∀ x,d x=none->g x≠none->i x=none:=by
 intro B q;refine(D B (λu o c=>q u o (s u o c))).mono ?_;rintro C G ⟨i,m,t⟩;have E:∀ x,d x=none->g x≠none->i x=none:=λx a b=>by
  cases c:i x with
  | none=>rfl
  | some o =>
   rcases m.sB x (by rw[c];simp)with h|h
   ·exact absurd a h
   cases z:g x with
   | none=>exact absurd z b
   | some y=>have:=ec (q x y z);omega
 let e:Heap:=λx=>match d x,g x with
  | none,some o=>some o
  | _,_=>i x
 have w:∀ x o,d x=none->g x=some o->e x=some o:=λx o a b=>by simp[e,a,b]
 have p:∀ x,d x≠none\/g x=none->e x=i x:=λx j=>by
  cases a:d x with
  | none =>
   cases b:g x with
   | none=>simp[e,a,b]
   | some o =>
    rcases j with j|j
    ·exact absurd a j
    rw[b]at j;cases j
  | some y=>simp[e,a]
 have F:cQ g B e G:=by
  refine⟨λx y c=>?_,λx c A=>?_,λx c=>?_,m.size,m.fz,m.out⟩
  ·cases a:d x with
   | none =>
    cases b:g x with
    | none=>rw[p x (.inr b)]at c;exact m.view x y c
    | some o =>
     rw[w x o a b]at c;rw[m.aK x (ec (q x o b)) a,<-c];exact q x o b
   | some I=>rw[p x (.inl (by rw[a];simp))]at c;exact m.view x y c
  ·refine m.aK x c ?_;cases a:d x with
   | none=>rfl
   | some o=>rw[s x o a]at A;cases A
  by_cases b:g x=none
  ·rw[p x (.inr b)]at c;rcases m.sB x c with h|h
   ·left
    cases a:d x with
    | none=>exact absurd a h
    | some o=>rw[s x o a];simp
   exact .inr h
  exact .inl b
 refine⟨e,F,?_⟩;cases C with
 | returned v =>
  refine⟨i,t,λx a b=>?_,p,E⟩;cases h:g x with
  | none=>exact absurd h b
  | some o=>exact w x o a h
 | panicked H=>exact t.elim
 | outgrown=>exact t.elim
theorem Oe {P:Program} {f:FuncId} {args:List Value} {g:Heap} {b:Nat} {vb:Value} {p k:Int} {A:Heap->Value->Prop} {K:Value->Heap->Prop} {E:List PanicEntry->Heap->Prop} (r:bC g b vb p) (w:Dr P f args g b vb p k A)
  (y:∀ v a q,g.le a->bC a b vb q->p<=q->q<=p+k->KP (since g a)->A a v->K v (cO a b vb q)):Go.Vc.Call P f args (cO g b vb p) K E :=
 aB (bq.fz w) λv F x=>by
  obtain⟨⟨a,q,rfl,m,j,i,s,u⟩,B⟩:=x;refine y v a q m (r.to m j i) i s (λe o C D z=>?_) u;obtain⟨t,d⟩:=dU z;have h:e≠b:=by rintro rfl;rw[j]at d;cases d
  rcases B e o C D (by rw[fH h];exact d)with c|c
  ·exact c
  rw[fH h,t]at c;cases c
def HV (g:Heap) (v:Value):Prop:=∃ a u,v=.agg ⟨a⟩/\dn g a u/\vN u.methods
theorem HV.elim {g:Heap} {v:Value} {K:Prop} (h:HV g v) (b:∀ p n c q m d u,v=.agg #[.slice p n c,.slice q m d]->dn g [.slice p n c,.slice q m d] u->vN u.methods->K):K:=by
 obtain⟨i,u,rfl,h,a⟩:=h;obtain⟨f,e,q,d,rfl,_⟩:=h.form;exact b _ _ _ _ _ _ _ rfl h a
theorem nP.Of {g0 i:Heap} {h:Option Addr} {f:Nat} {cs:List dB} {bm g:Nat} {recs:List (List Value)} {A:List bT} (u:nP g0 i h f cs bm g recs A A.length):vN A:=by
 intro B m;obtain⟨c,rfl⟩:=List.getElem?_eq_some_iff.1 m;have d:0 < recs.length:=by rw[u.row.len];exact c
 obtain⟨s,n,t,⟨C,a,b⟩,x,j,_⟩:=u.fst c;obtain⟨q,v,D,z,e,_,_,_,_,_,p,_⟩:=(u.row.each 0 d c).ex;rw[w_ d]at a;simp only[v_]at a;rw[<-a,e]at b;simp only[List.getElem?_cons_succ,List.getElem?_cons_zero,v_]at b;subst b;obtain⟨o,y,e,_,k,_⟩:=BV j p;exact⟨o,y,e,λw=>O⟩
theorem LN {g:Heap} {b:Nat} {vb:Value} {p:Int} (r:bC g b vb p) (E:p<=20000000) (j:Pc g) :
  Dr prog 42 [.pointer (some ⟨b,0,none⟩)] g b vb p 11000 HV:=by
 refine bE ax func42 WA U rfl ?_;conv=>whnf
 refine Oe r (C3 r O (z_ g) j) (λv C I e s J K q a=>?_);refine a.elim λz a=>a.elim λx a=>a.elim λB a=>a.elim λu a=>a.elim λy a=>a.elim λQ a=>a.elim λA a=>?_;have c:=a.1;subst c;have d:=a.2.1;conv=>whnf
 refine bN s O (λS T V W f=>?_);conv=>whnf
 apply aC<;>intro h;all_goals conv=>whnf
 ·refine Oc r O (C9 r f O O e q d) (λv D M o t N P a=>?_);refine HV.elim a λH G w L F d2 R c i m=>?_;subst c;conv=>whnf
  exact⟨_,_,rfl,o,t.free,O,O,_,_,rfl,i,m⟩
 exact⟨_,_,rfl,e,f.free,O,O,_,_,rfl,d.FE.le (aO _ _),d.Of⟩
theorem Og (v:Value) (n:Nat) (h:Heap) (b:Bytes h v n) (q:n<=1000000000000000) :
  bq prog 28 [v] h λr f=>∃ a vb,r=.pointer (some ⟨a,0,none⟩)/\f=cO h a vb 0/\bC h a vb 0:=by
 obtain⟨p,d,rfl,i,b⟩:=b;refine bE ax func28 Wu U rfl ?_;conv=>whnf
 apply aC<;>intro g;all_goals conv=>whnf
 ·refine ay ?_;conv=>whnf
  refine new λa c=>?_;conv=>whnf
  exact⟨a,_,rfl,rfl,c,⟨2000,⟨p,d,rfl,O,.inr (by
   rcases b with b|⟨e,m,rfl,b⟩
   ·omega
   exact⟨e,m,rfl,λj o=>b j O⟩)⟩,O⟩,O⟩
 refine new λa c=>?_;conv=>whnf
 exact⟨a,_,rfl,rfl,c,⟨n,⟨p,d,rfl,i,b⟩,O⟩,O⟩
theorem KW {g:Heap} {a:Nat} {vb:Value} {p:Int} (r:bC g a vb p) (e:p<=90000000) :
  Dr prog 45 [.pointer (some ⟨a,0,none⟩)] g a vb p 1 λb v=>b=g/\∃ x:Int,v=.int .i64 x/\0<=x/\x<=200:=by
 refine bE ax func45 WC U rfl ?_;conv=>whnf
 refine bN r O (λx f h i d=>?_);have c:x=0\/x=1\/x=2\/x=3\/x=4\/x=5\/x=6\/x=7\/x=8:=by omega
 rcases c with rfl|rfl|rfl|rfl|rfl|rfl|rfl|rfl|rfl;all_goals
  conv=>whnf
  refine ay ?_;conv=>whnf
  exact⟨_,_,rfl,z_ g,d.free,O,O,rfl,_,rfl,O,O⟩
abbrev FQ (n:Nat):Prop:=n<=1048576
theorem bY.row {sz:Nat} {c:Type} {f:c->List Value} {Q:Heap->List Value->c->Prop} {h:Heap} {v:Value} {l:List c} {B:List Nat} (b:bY sz h v (l.map f) B) (y:l.length<=140737488351232) (C:∀ a∈l,Q h (f a) a):Row sz Q h v l:=by
 obtain⟨o,b⟩:=b;rcases b with ⟨rfl,z,_⟩|⟨p,q,rest,G,rfl,t,d,g,_⟩
 ·have:l=[]:=by simpa using z
  subst this;exact⟨Z,none,0,rfl,Z,.inl rfl⟩
 refine⟨y,_,q,Z,by simpa using t,.inr ⟨p,0,rfl,λi x e=>?_⟩⟩;have j:x∈l:=List.mem_of_getElem? e;obtain⟨u,w⟩:=List.getElem?_eq_some_iff.1 e;refine⟨f x,?_,C x j⟩;have m:l.map f=(l.take i).map f++f x::(l.drop (i+1)).map f:=by
  rw[<-w,<-List.map_cons,<-List.map_append,<-List.drop_eq_getElem_cons u,List.take_append_drop]
 have A:((l.take i).map f).flatten.length=i*sz:=by
  rw[cE (sz:=sz)]
  ·rw[List.length_map,List.length_take,Nat.min_eq_left O]
  intro F E;exact o F (by rw[m];exact u_.2 (.inl E))
 have D:(f x).length=sz:=o _ (List.mem_map_of_mem j);rw[m]at d g;have:=bA d sz (0+i*sz) (by
  simp only[List.flatten_append,List.flatten_cons,U_]at g ⊢;omega)
 rw[this];congr 1
 have s:((List.map f (List.take i l)++f x::List.map f (List.drop (i+1) l)).flatten++rest)=(List.map f (List.take i l)).flatten++(f x++((List.map f (List.drop (i+1) l)).flatten++rest)):=by simp
 rw[s,Nat.zero_add,<-A,List.drop_left,<-D,List.take_left]
theorem Rows.T3 {c:Type} {R:Heap->List Value->c->List Nat->Prop} {h:Heap} {xs:List (List Value)} {l:List c} {B:List Nat} (b:Rows R h xs l B):∀ i (a:i < l.length),∃ d:i < xs.length,∃ C,R h xs[i] l[i] C:=λi a=>⟨by rw[b.len];exact a,b.mem i a _⟩
theorem ep.Oh {d:Type} {R:Heap->List Value->d->List Nat->Prop} {Q:Heap->List Value->d->Prop} {sz:Nat} {h:Heap} {v:Value} {l:List d} {B:List Nat} (c:ep R sz h v l B) (M:l.length<=1000000\/l.length<=140737488351232) (E:∀ x a C,a∈l->R h x a C->Q h x a):Row sz Q h v l:=by
 obtain⟨b,J,K,⟨m,c⟩,j,_⟩:=c;have g:=j.len;rcases c with ⟨rfl,A,_⟩|⟨o,p,rest,N,rfl,L,e,f,_⟩
 ·subst A;have:l=[]:=List.eq_nil_of_length_eq_zero (by simpa using g.symm);subst this;exact⟨Z,none,0,rfl,Z,.inl rfl⟩
 refine⟨O,_,p,by rw[g],O,.inr ⟨o,0,rfl,λi x u=>?_⟩⟩;obtain⟨w,y⟩:=List.getElem?_eq_some_iff.1 u;obtain⟨z,C,t⟩:=j.T3 i w;have G:b[i].length=sz:=m _ (x_ _);refine⟨b[i],?_,by subst y;exact E _ _ C (x_ _) t⟩;have D:(b.take i).flatten.length=i*sz:=by
  rw[cE (sz:=sz)]
  ·rw[List.length_take,Nat.min_eq_left O]
  intro I H;exact m I (List.mem_of_mem_take H)
 have F:b.flatten++rest=(b.take i).flatten++(b[i]++((b.drop (i+1)).flatten++rest)):=by
  have q:b=b.take i++b[i]::b.drop (i+1):=by rw[<-List.drop_eq_getElem_cons z,List.take_append_drop]
  have s:=congrArg List.flatten q;rw[s];simp only[List.flatten_append,List.flatten_cons,List.append_assoc]
 rw[F]at e f;have:=bA e sz (0+i*sz) (by
  simp only[U_]at f ⊢;omega)
 rw[this,Nat.zero_add,<-D,List.drop_left,<-G,List.take_left]
def AX (_:Heap) (vs:List Value) (x:Int):Prop:=vs=[.int .i64 x]
def FR (_:Heap) (vs:List Value) (x:Vl):Prop:=vs=[.bool x.ref,.int .i64 x.n]
def uG (h:Heap) (vs:List Value) (o:Ob):Prop:=∃ v,vs=[.int .i64 o.cls,v]/\Row 2 FR h v o.bp
def qu (h:Heap) (vs:List Value) (f:cJ):Prop:=∃ a b,vs=[.int .i64 f.aG,.int .i64 f.pc,a,b]/\Row 2 FR h a f.locals/\Row 2 FR h b f.stack
def AY (h:Heap) (mc:List Value) (M:cr):Prop:=∃ b a c,mc=aR b a c M/\Row 2 uG h b M.objs/\Row 4 qu h a M.aq/\Row 1 AX h c M.said
theorem Dd {h:Heap} {v:Value} {l:List Int} {B:List Nat} (b:dM h v l B) (a:l.length<=140737488351232):Row 1 AX h v l:=bY.row b a λ_ _=>rfl
theorem rB {h:Heap} {v:Value} {l:List Vl} {B:List Nat} (b:dx h v l B) (a:l.length<=140737488351232):Row 2 FR h v l:=bY.row b a λ_ _=>rfl
def FT (o:Ob):Prop:=FQ o.bp.length
def FU (f:cJ):Prop:=FQ f.locals.length/\FQ f.stack.length
structure Jd (M:cr):Prop where
 objs:FQ M.objs.length
 ob:∀ o∈M.objs,FT o
 aq:FQ M.aq.length
 fr:∀ f∈M.aq,FU f
 said:FQ M.said.length
theorem Small.ZK {M:cr} (h:Small M):Jd M:=by
 obtain⟨e,g,i,a,b⟩:=h;refine⟨by unfold FQ;omega,λo d=>by have:=a o d;unfold FT FQ;omega,by unfold FQ;omega,λf c=>by have:=b f c;unfold FU FQ;omega,by unfold FQ;omega⟩
theorem gZ.VP {h:Heap} {mc:List Value} {M:cr} {B:List Nat} (j:gZ h mc M B) (a:Jd M):AY h mc M:=by
 obtain⟨u,t,w,_,_,_,e,f,g,i,_⟩:=j;refine⟨u,t,w,e,f.Oh (.inr (by have:=a.objs;omega)) λx b C d c=>?_,g.Oh (.inr (by have:=a.aq;omega)) λx b C d c=>?_,Dd i (by have:=a.said;omega)⟩
 ·obtain⟨v,e,o⟩:=c;exact⟨v,e,rB o (by have:=a.ob b d;unfold FT at this;omega)⟩
 obtain⟨q,s,_,_,e,m,p,_⟩:=c;have:=a.fr b d;unfold FU at this;exact⟨q,s,e,rB m O,rB p O⟩
theorem BZ {h:Heap} {b:Nat}:∀ {n off m:Nat} {xs ys:List Value},dP h b off n=some xs->dP h b (off+n) m=some ys->dP h b off (n+m)=some (xs++ys)
 | 0,off,m,xs,ys,h1,h2=>by
  simp only[dP,v_]at h1;subst h1;simpa using h2
 | n+1,off,m,xs,ys,h1,h2=>by
  obtain⟨y,a,⟨r,c,rfl⟩⟩:∃ y,rd h b off=some y/\∃ r,dP h b (off+1) n=some r/\xs=y::r:=by
   simp only[dP]at h1;split at h1
   ·rename_i y r d e;simp only[v_]at h1;exact⟨y,d,r,e,h1.symm⟩
   cases h1
  have:=BZ c (m:=m) (ys:=ys) (by rw[show off+1+n=off+(n+1)by omega];exact h2);rw[show n+1+m=(n+m)+1 by omega];simp only[dP,a,this,List.cons_append]
theorem zm {f:Type} {sz:Nat} {R:Heap->List Value->f->Prop} {h:Heap} {b:Nat}:∀ {l:List f} {off:Nat},(∀ i x,l[i]? = some x->∃ vs,dP h b (off+i*sz) sz=some vs/\R h vs x) ->
  ∃ xs:List (List Value),dP h b off (l.length*sz)=some xs.flatten/\xs.length=l.length/\∀ i (a:i < xs.length) (e:i < l.length),R h xs[i] l[i]/\xs[i].length=sz
 | [],off,_=>⟨[],by simp[dP],rfl,λi a=>by simp at a⟩
 | c::l,off,hx=>by
  obtain⟨v,d,s⟩:=hx 0 c rfl;obtain⟨xs,g,m,o⟩:=zm (l:=l) (off:=off+sz) (λi x j=>by
   obtain⟨vs,p,q⟩:=hx (i+1) x (by simpa using j);exact⟨vs,by rw[show off+sz+i*sz=off+(i+1)*sz by rw[Nat.add_mul];omega];exact p,q⟩)
  refine⟨v::xs,?_,by simp[m],λi a e=>?_⟩
  ·have:=BZ (by simpa using d) g;rw[show(c::l).length*sz=sz+l.length*sz by simp[Nat.add_mul];omega];simpa using this
  cases i with
  | zero=>exact⟨s,sC d⟩
  | succ i=>exact o i (by simpa using a) (by simpa using e)
theorem Je {h:Heap} {v:Value} {n:Nat} (b:Bytes h v n):∃ f:Heap,f.le h/\Bytes f v n/\Pc f:=by
 obtain⟨u,g,rfl,j,b⟩:=b;by_cases i:n=0
 ·exact⟨λ_=>none,λc t a=>(nomatch a),⟨u,g,rfl,j,.inl i⟩,λc o w z a=>(nomatch a)⟩
 rcases b with b|⟨c,m,rfl,b⟩
 ·exact absurd b i
 refine⟨λx=>if x=c then h c else none,λx t a=>?_,⟨_,g,rfl,j,.inr ⟨c,m,rfl,λs q=>?_⟩⟩,λx o w z a=>?_⟩
 ·by_cases e:x=c
  ·simp only[e,if_true]at a ⊢;exact a
  simp only[e,if_false]at a;cases a
 ·obtain⟨y,d,p⟩:=b s q;refine⟨y,?_,p⟩;unfold rd at d ⊢;simp only[if_true];exact d
 by_cases e:x=c
 ·simp only[e,if_true]at a;obtain⟨y,d,_⟩:=b 0 O;simp only[rd,a]at d;exact⟨m+0,y,d⟩
 simp only[e,if_false]at a;cases a
section
variable {g2 g3:Heap} {bb:Nat} {R:cr} {po pf pw:Option Addr} {co cf cw:Nat} {B1 B2 B3:List Nat}
end
open Go.Vc Go.Proofs.Tryz
set_option maxRecDepth 100000
set_option maxHeartbeats 4000000
theorem HW {P:Program} {t:TypeId} {f0 f1:Field} {i:IntKind} (a b:Bool) (c d:Int) (e:P.underlying t=some (.struct #[f0,f1])) (o:P.stoodInHeld t=false) (u:f0.name≠ "_") (v:f1.name≠ "_") (p:P.underlying f0.type=some .bool) (q:P.underlying f1.type=some (.int i))
  (x:∀(a:Bool) (c:Int) (w:World),(part f0.type #[.bool a,.int .i64 c] f0.offset).run P w=.ok (.bool a) w) (h:∀(a:Bool) (c:Int) (w:World),(part f1.type #[.bool a,.int .i64 c] f1.offset).run P w=.ok (.int .i64 c) w) (w:World) :
  (Go.binOp .eql t (.agg #[.bool a,.int .i64 c]) (.agg #[.bool b,.int .i64 d])).run P w=.ok (.bool (a==b&&c==d)) w:=by
 have g:P.fieldsOf t = #[f0,f1]:=by simp[Program.fieldsOf,e]
 have j:(Op.equalIn (9999+1) t (.agg #[.bool a,.int .i64 c]) (.agg #[.bool b,.int .i64 d])).run P w=.ok (a==b&&c==d) w:=by
  rw[run_equalIn_struct w 9999 t _ _ (by rw[g];exact e) o,g];simp only[Op.eqFields,u,v,ne_eq,not_false_eq_true,if_true,Sem.run_bind,x,h,Result.andThen_ok];rw[show(9999:Nat)=9998+1 from rfl,run_equalIn_bool' w 9998 f0.type a b p];by_cases f:a=b
  ·subst f;simp only[Result.andThen_ok,beq_self_eq_true,Bool.not_true,Bool.false_eq_true,if_false,Sem.run_bind,h];rw[run_equalIn_int w 9998 f1.type .i64 i c d q];by_cases s:c=d<;>simp[s]
  have:(a==b)=false:=by simpa using f
  simp[this]
 have m:(Op.equal t (.agg #[.bool a,.int .i64 c]) (.agg #[.bool b,.int .i64 d])).run P w=.ok (a==b&&c==d) w:=j;rw[show Go.binOp .eql t (.agg #[.bool a,.int .i64 c]) (.agg #[.bool b,.int .i64 d])=(do pure (.bool (<-Op.equal t (.agg #[.bool a,.int .i64 c]) (.agg #[.bool b,.int .i64 d]))))from rfl];simp only[Sem.run_bind,m,Result.andThen_ok,Sem.run_pure]
theorem KX (x y:Vl) (w:World):(Go.binOp .eql 31 (.agg #[.bool x.ref,.int .i64 x.n]) (.agg #[.bool y.ref,.int .i64 y.n])).run prog w=.ok (.bool (x.ref==y.ref&&x.n==y.n)) w:=by
 refine HW _ _ _ _ rfl ?_ ?_ ?_ rfl rfl ?_ ?_ w
 ·kernel_rfl
 ·decide
 ·decide
 ·intro a c w;rfl
 intro a c w;rfl
theorem FV (x:Vl):(x.ref==false&&x.n==0)=true↔x=dy:=by
 obtain⟨r,n⟩:=x;cases r<;>simp[dy]
theorem uG.le {h b:Heap} (c:h.le b) {xs:List Value} {o:Ob} (a:uG h xs o):uG b xs o:=by
 obtain⟨v,e,d⟩:=a;exact⟨v,e,d.le c (λ_ _ a=>a)⟩
theorem qu.le {h b:Heap} (c:h.le b) {xs:List Value} {f:cJ} (a:qu h xs f):qu b xs f:=by
 obtain⟨v,w,e,d,g⟩:=a;exact⟨v,w,e,d.le c (λ_ _ a=>a),g.le c (λ_ _ a=>a)⟩
theorem AY.le {h c:Heap} (b:h.le c) {mc:List Value} {M:cr} (a:AY h mc M):AY c mc M:=by
 obtain⟨f,d,g,e,i,j,m⟩:=a;exact⟨f,d,g,e,i.le b (λ_ _ a=>uG.le b a),j.le b (λ_ _ a=>qu.le b a),m.le b (λ_ _ a=>a)⟩
theorem j6 {P:Program} {f:FuncId} {args:List Value} {h:Heap} {K:Value->Heap->Prop} {E:List PanicEntry->Heap->Prop} {p:Prop} (k:Go.Vc.Pure P f args h (tf p)) (c:p->K (.bool true) h) (b:¬p->K (.bool false) h):Go.Vc.Call P f args h K E:=by
 by_cases a:p
 ·rw[eg a]at k;exact au k (c a)
 rw[cD a]at k;exact au k (b a)
structure Oi (v x:Value) (h' h:Heap):Prop where
 e:v=x
 k:h.le h'
theorem jc {P:Program} {f:FuncId} {args:List Value} {h:Heap} {S:lD} (d:dJ P S) {a:Func} (e:P.funcs[f]? = some a) (F:Fs) {k:Nat} (i:iW F a k=true) {x:Value} (g:args.length=k) (j:Goal P S F a args h λo c=>match o with
  | .ret v=>Oi v x c h
  | .nT _=>False):Go.Vc.Pure P f args h x:=by
 subst g;unfold Go.Vc.Pure bq;refine(calls d e F i j).shrink λo c b=>?_;cases o with
 | ret v=>exact⟨h,b.2,b.1,rfl⟩
 | nT m=>exact b.elim
theorem FW (M:cr):wM M↔(((M.fin=0\/M.fin=3)/\0 < M.aq.length/\M.out=dy)\/(M.fin=1/\M.aq.length=0)\/(M.fin=2/\M.aq.length=0/\M.out.ref=true/\1<=M.out.n)):=by
 unfold wM;have a:M.aq≠[]↔0 < M.aq.length:=List.length_pos_iff.symm;have b:M.aq=[]↔M.aq.length=0:=List.length_eq_zero_iff.symm;rw[a,b]
theorem xA {M:cr} {r z:Bool} (a:M.out.ref=r) (b:(M.out.ref==false&&M.out.n==0)=z):wM M↔(((M.fin=0\/M.fin=3)/\0 < M.aq.length/\z=true)\/(M.fin=1/\M.aq.length=0)\/(M.fin=2/\M.aq.length=0/\r=true/\1<=M.out.n)):=by
 rw[FW,<-FV,b,a]
theorem HX (j vs:Value) (i:Option Addr) (e:Nat) (M:cr) (h:Heap):Pure prog 114 [.agg ⟨aR j (.slice i M.aq.length e) vs M⟩] h (tf (wM M)):=by
 refine jc ax func114 PY U rfl ?_;unfold aR;have g:∀ c:Bool,(M.out.ref==false&&M.out.n==0)=c->∀ w:World,(Go.binOp .eql 31 (.agg #[.bool M.out.ref,.int .i64 M.out.n]) (.agg #[.bool false,.int .i64 0])).run prog w=.ok (.bool c) w:=λc a w=>by
  rw[<-a];exact KX M.out dy w
 cases a:(M.out.ref==false&&M.out.n==0)<;>cases b:M.out.ref
 all_goals
  have d:=g _ a;rw[b]at d;conv=>whnf
  repeat' ((first|apply aC<;>intro _|apply aX<;>intro _|refine de rfl rfl (λw=>by simp[eqGuard]) d ?_)<;>conv=>whnf)
  all_goals first|exact⟨dH ((xA b a).2 (by simp only[Bool.true_eq_false,Bool.false_eq_true,and_true,and_false,true_and,false_and,or_false,false_or];omega)),z_ h⟩|exact⟨bU (λf=>by have:=(xA b a).1 f;simp only[Bool.true_eq_false,Bool.false_eq_true,and_true,and_false,true_and,false_and,or_false,false_or]at this;omega),z_ h⟩|exact⟨fA ((xA b a).trans (by simp only[Bool.true_eq_false,Bool.false_eq_true,and_true,and_false,true_and,false_and,or_false,false_or];omega)),z_ h⟩
theorem xB {u:aI} {n:Nat} {f:cJ} (a:0<=f.aG/\f.aG < u.methods.length):tM u n f↔((0<=f.pc/\f.pc<=(bz u f.aG).code.length)/\(f.locals.length:Int)=(bz u f.aG).locals/\f.stack.length<=4/\(∀ v∈f.locals,jz n v)/\∀ v∈f.stack,jz n v):=⟨λh=>h.2,λh=>⟨a,h⟩⟩
theorem KY {u:aI} {n:Nat} {f:cJ} (a:¬((0<=f.pc/\f.pc<=(bz u f.aG).code.length)/\(f.locals.length:Int)=(bz u f.aG).locals/\f.stack.length<=4)):¬tM u n f:=λh=>a ⟨h.2.1,h.2.2.1,h.2.2.2.1⟩
def ZL (u:aI) (n i:Nat) (o:Ob):Prop:=Em u n o/\(i < 7->o.cls=1)
theorem HY (u:aI) (M:cr):kn u M↔((0<=M.steps/\M.steps<=200)/\(7<=M.objs.length/\M.objs.length<=207)/\M.aq.length<=4/\M.said.length<=200)/\jz M.objs.length M.out/\(∀ i (a:i < M.objs.length),ZL u M.objs.length i M.objs[i])/\(∀ f∈M.aq,tM u M.objs.length f)/\(∀ n∈M.said,isWord n=true)/\wM M:=by
 have low:∀(s:7<=M.objs.length) (k:Int) (g:0 < k) (b:k<=7),aM M.objs k=M.objs[(k-1).toNat]'O:=λs k g b=>by
  unfold aM;rw[S_,w_ O];rfl
 constructor
 ·intro h;refine⟨⟨h.steps,h.len,h.nf,h.mw⟩,h.out,λi a=>⟨h.objs _ (x_ a),λe=>?_⟩,h.jX,h.said,h.fin⟩;have:=h.low ((i:Int)+1) O O;rw[low h.len.1 _ O O]at this;simp only[show((i:Int)+1-1).toNat=i by omega]at this;exact this
 rintro⟨⟨b,c,j,m⟩,o,d,e,p,q⟩;refine⟨b,c,j,m,o,λx t=>?_,λk v w=>?_,e,p,q⟩
 ·obtain⟨i,a,rfl⟩:=List.mem_iff_getElem.1 t;exact(d i a).1
 rw[low c.1 k v w];exact(d _ O).2 O
theorem take_one {b:Type} {l:List b} {i:Nat} {Q:b->Prop} (c:i < l.length) (d:∀ x∈l.take i,Q x) (e:Q l[i]):∀ x∈l.take (i+1),Q x:=λx a=>by
 rw[List.take_add_one,u_]at a;rcases a with a|a
 ·exact d x a
 rw[w_ c]at a;simp at a;subst a;exact e
theorem De (r:Bool) (k:Int) (n:Int) (h:Heap):Pure prog 97 [.agg #[.bool r,.int .i64 k],.int .i64 n] h (tf (r=true->0<=k/\k<=n)):=by
 refine jc ax func97 W9 U rfl ?_;cases r
 all_goals conv=>whnf
 ·exact⟨dH (λh=>nomatch h),z_ h⟩
 repeat' ((first|apply aC<;>intro _|apply aX<;>intro _)<;>conv=>whnf)
 all_goals first|exact⟨dH (λ_=>O),z_ h⟩|exact⟨bU (λa=>by have:=a rfl;omega),z_ h⟩|exact⟨fA ⟨λa=>by have:=a rfl;omega,λa _=>O⟩,z_ h⟩
theorem AZ (c:Value) (q:Option Addr) (n d:Nat) (k:Int) (h:Heap):Pure prog 87 [.agg #[c,.slice q n d],.int .i64 k] h (tf (0<=k/\k < n)):=by
 refine jc ax func87 W1 U rfl ?_;conv=>whnf
 repeat' ((first|apply aC<;>intro _|apply aX<;>intro _)<;>conv=>whnf)
 all_goals first|exact⟨dH O,z_ h⟩|exact⟨bU O,z_ h⟩|exact⟨fA O,z_ h⟩
theorem uS {K:Value->Heap->Prop} {E:List PanicEntry->Heap->Prop} {p:Option Addr} {n c:Nat} {cs:List dB} {x:Int} {h:Heap} (i:eP h (.slice p n c) cs) (ok:bX cs) (h0:0<=x/\x < cs.length) (f:∀ a d b,h.le a->K (.slice d (bV cs x).length b) a) :
  gD prog 153 [.slice p n c,.int .i64 x] h K E:=cP (gh _ p n c cs x h i ok h0.1 h0.2 (Nat.lt_succ_self _)) (λv a g=>by
 obtain⟨e,B,own,_⟩:=g;obtain⟨d,b,rfl,_⟩:=own.form;rw[List.length_map];exact⟨e,f a d b e⟩)
def T4 (u:aI) (o:Ob):Prop:=((o.cls = -1\/o.cls = -2)/\o.bp.length<=6)\/(0<=o.cls/\o.cls < u.ak.length/\o.bp.length=(bV u.ak o.cls).length)
theorem HZ (p:Option Addr) (b:Nat) (u:aI) (o:Ob) (i:Option Addr) (d:Nat) (h:Heap) (g:Row 2 uK h (.slice p u.ak.length b) u.ak) (e:bS u):Pure prog 110 [.slice p u.ak.length b,.agg #[.int .i64 o.cls,.slice i o.bp.length d]] h (tf (T4 u o)):=by
 have f:=e.1;refine jc ax func110 PU U rfl ?_;unfold T4;conv=>whnf
 by_cases c:0<=o.cls/\o.cls < u.ak.length
 ·have a:=kI p u.ak.length b o.cls h;rw[eg c]at a;repeat' ((first|refine bZ ?_|refine aP a ?_|refine uS g f c (λm s j q=>?_)|apply T_|exact trivial)<;>conv=>whnf)
  all_goals exact⟨fA O,by first|exact z_ h|assumption⟩
 have a:=kI p u.ak.length b o.cls h;rw[cD c]at a;repeat' ((first|apply aC<;>intro _|refine aP a ?_|apply T_|exact trivial)<;>conv=>whnf)
 all_goals first|exact⟨fA O,z_ h⟩|exact⟨bU O,z_ h⟩
theorem KZ (x:Vl) (bm:Nat) (p m:Option Addr) (b c:Nat) (o vs:Value) (st d on:Int) (j:Bool) (t:TypeId) (h:Heap) (g:h bm=some (.cells [.slice m b c,o,vs,.int .i64 st,.int .i64 d,.bool j,.int .i64 on].toArray t (0,0))) :
  Pure prog 96 [.agg ⟨dO x⟩,.pointer (some ⟨bm,0,none⟩)] h (tf (jz b x)):=by
 obtain⟨r,k⟩:=x;unfold dO jz;refine jc ax func96 W8 U rfl ?_;have e:=De r k b h;have f:=tD k h;cases r
 all_goals conv=>whnf
 ·refine au f ?_;conv=>whnf
  refine⟨?_,z_ h⟩;by_cases a:isWord k=true
  ·rw[a];exact dH (by simp[a])
  have:isWord k=false:=by simpa using a
  rw[this];exact bU (by simp[this])
 refine ld (aY g rfl) ?_;conv=>whnf
 refine au e ?_;conv=>whnf
 refine⟨?_,z_ h⟩;by_cases a:0<=k/\k<=b
 ·rw[eg (λ_=>a)];exact dH (by simp;omega)
 rw[cD (λi=>a (i rfl))];exact bU (by simp;omega)
theorem FX (l:List Vl) (v:Value) (bm:Nat) (Q:Vl->Prop) (h:Heap) (g:Row 2 FR h v l) (p:∀ x∈l,∀ xs,FR h xs x->Pure prog 96 [.agg ⟨xs⟩,.pointer (some ⟨bm,0,none⟩)] h (tf (Q x))) :
  Pure prog 100 [v,.func (.func 96) #[] #[.pointer (some ⟨bm,0,none⟩)]] h (tf (∀ x∈l,Q x)):=by
 obtain⟨s,m,rfl,u,y⟩:=g.len;refine jc ax func100 PG U rfl ?_;conv=>whnf
 refine eF [1,7,8,9] [] (λi:Nat=>i<=l.length/\∀ x∈l.take i,Q x) (λi=>l.length-i)
  (λi=>([.v (.func (.func 96) #[] #[.pointer (some ⟨bm,0,none⟩)]),.v (.slice s l.length m),.v (.int .i64 l.length),.v (.int .i64 i)],[],h)) 0 ⟨Nat.zero_le _,Z⟩ rfl ?_
 rintro i ⟨w,d⟩;conv=>whnf
 apply aC<;>intro o;all_goals conv=>whnf
 ·have c:i < l.length:=by omega
  obtain⟨t,z,xs,f,j,e⟩:=g.get c;have b:=p _ (x_ c) xs e;unfold FR at e;subst e;by_cases a:Q l[i]
  ·rw[eg a]at b;repeat' ((first|refine aL f ?_|refine ay ?_|refine dZ j ?_|refine au b ?_|refine av ?_)<;>conv=>whnf)
   exact cL (i+1) ⟨O,take_one c d a⟩ O rfl
  rw[cD a]at b;repeat' ((first|refine aL f ?_|refine ay ?_|refine dZ j ?_|refine au b ?_|refine av ?_)<;>conv=>whnf)
  exact⟨bU λq=>a (q _ (x_ c)),z_ h⟩
 have:i=l.length:=by omega
 subst this;rw[List.take_length]at d;exact⟨dH d,z_ h⟩
theorem FY (l:List Int) (v:Value) (Q:Int->Prop) (h:Heap) (g:Row 1 AX h v l) (p:∀ x∈l,∀ xs,AX h xs x->Pure prog 98 [.int .i64 x] h (tf (Q x))) :
  Pure prog 105 [v,.func (.func 98) #[] #[]] h (tf (∀ x∈l,Q x)):=by
 obtain⟨s,m,rfl,w,z⟩:=g.len;refine jc ax func105 PM U rfl ?_;conv=>whnf
 refine eF [1,7,8,9] [] (λi:Nat=>i<=l.length/\∀ x∈l.take i,Q x) (λi=>l.length-i)
  (λi=>([.v (.func (.func 98) #[] #[]),.v (.slice s l.length m),.v (.int .i64 l.length),.v (.int .i64 i)],[],h)) 0 ⟨Nat.zero_le _,Z⟩ rfl ?_
 rintro i ⟨y,d⟩;conv=>whnf
 apply aC<;>intro o;all_goals conv=>whnf
 ·have c:i < l.length:=by omega
  obtain⟨u,A,xs,f,t,e⟩:=g.get c;have b:=p _ (x_ c) xs e;(unfold AX at e;subst e;have j:=aJ t (i:=0) rfl)
  by_cases a:Q l[i]
  ·rw[eg a]at b;repeat' ((first|refine aL f ?_|refine ay ?_|refine ld j ?_|refine au b ?_|refine av ?_)<;>conv=>whnf)
   exact cL (i+1) ⟨O,take_one c d a⟩ O rfl
  rw[cD a]at b;repeat' ((first|refine aL f ?_|refine ay ?_|refine ld j ?_|refine au b ?_|refine av ?_)<;>conv=>whnf)
  exact⟨bU λq=>a (q _ (x_ c)),z_ h⟩
 have:i=l.length:=by omega
 subst this;rw[List.take_length]at d;exact⟨dH d,z_ h⟩
theorem Df (l:List Ob) (v:Value) (Q:Ob->Prop) (h:Heap) (f:Row 2 uG h v l) (p:∀ x∈l,∀ xs,uG h xs x->Pure prog 107 [.agg ⟨xs⟩] h (tf (Q x))) :
  Pure prog 68 [v,.func (.func 107) #[] #[]] h (tf (∀ x∈l,Q x)):=by
 obtain⟨t,m,rfl,w,z⟩:=f.len;refine jc ax func68 OF JH rfl ?_;conv=>whnf
 refine eF [1,7,8,9] [] (λi:Nat=>i<=l.length/\∀ x∈l.take i,Q x) (λi=>l.length-i)
  (λi=>([.v (.func (.func 107) #[] #[]),.v (.slice t l.length m),.v (.int .i64 l.length),.v (.int .i64 i)],[],h)) 0 ⟨Nat.zero_le _,Z⟩ rfl ?_
 rintro i ⟨y,d⟩;conv=>whnf
 apply aC<;>intro o;all_goals conv=>whnf
 ·have c:i < l.length:=by omega
  obtain⟨u,A,xs,e,j,g⟩:=f.get c;have b:=p _ (x_ c) xs g;(obtain⟨B,rfl,q⟩:=g;obtain⟨_,_,rfl,_,_⟩:=q.len)
  by_cases a:Q l[i]
  ·rw[eg a]at b;repeat' ((first|refine aL e ?_|refine ay ?_|refine dZ j ?_|refine au b ?_|refine av ?_)<;>conv=>whnf)
   exact cL (i+1) ⟨O,take_one c d a⟩ O rfl
  rw[cD a]at b;repeat' ((first|refine aL e ?_|refine ay ?_|refine dZ j ?_|refine au b ?_|refine av ?_)<;>conv=>whnf)
  exact⟨bU λs=>a (s _ (x_ c)),z_ h⟩
 have:i=l.length:=by omega
 subst this;rw[List.take_length]at d;exact⟨dH d,z_ h⟩
theorem Dg (l:List Ob) (v:Value) (e d:Nat) (Q:Ob->Prop) (h:Heap) (j:Row 2 uG h v l) (s:∀ x∈l,∀ xs,uG h xs x->Pure prog 109 [.agg ⟨xs⟩,.pointer (some ⟨e,0,none⟩),.pointer (some ⟨d,0,none⟩)] h (tf (Q x))) :
  Pure prog 68 [v,.func (.func 109) #[] #[.pointer (some ⟨e,0,none⟩),.pointer (some ⟨d,0,none⟩)]] h (tf (∀ x∈l,Q x)):=by
 obtain⟨w,p,rfl,z,B⟩:=j.len;refine jc ax func68 OF JH rfl ?_;conv=>whnf
 refine eF [1,7,8,9] [] (λi:Nat=>i<=l.length/\∀ x∈l.take i,Q x) (λi=>l.length-i)
  (λi=>([.v (.func (.func 109) #[] #[.pointer (some ⟨e,0,none⟩),.pointer (some ⟨d,0,none⟩)]),.v (.slice w l.length p),.v (.int .i64 l.length),.v (.int .i64 i)],[],h)) 0 ⟨Nat.zero_le _,Z⟩ rfl ?_
 rintro i ⟨A,f⟩;conv=>whnf
 apply aC<;>intro q;all_goals conv=>whnf
 ·have c:i < l.length:=by omega
  obtain⟨y,C,xs,g,o,m⟩:=j.get c;have b:=s _ (x_ c) xs m;(obtain⟨D,rfl,t⟩:=m;obtain⟨_,_,rfl,_,_⟩:=t.len)
  by_cases a:Q l[i]
  ·rw[eg a]at b;repeat' ((first|refine aL g ?_|refine ay ?_|refine dZ o ?_|refine au b ?_|refine av ?_)<;>conv=>whnf)
   exact cL (i+1) ⟨O,take_one c f a⟩ O rfl
  rw[cD a]at b;repeat' ((first|refine aL g ?_|refine ay ?_|refine dZ o ?_|refine au b ?_|refine av ?_)<;>conv=>whnf)
  exact⟨bU λu=>a (u _ (x_ c)),z_ h⟩
 have:i=l.length:=by omega
 subst this;rw[List.take_length]at f;exact⟨dH f,z_ h⟩
theorem FZ (l:List cJ) (v:Value) (e d:Nat) (Q:cJ->Prop) (h:Heap) (j:Row 4 qu h v l) (s:∀ x∈l,∀ xs,qu h xs x->Pure prog 99 [.agg ⟨xs⟩,.pointer (some ⟨e,0,none⟩),.pointer (some ⟨d,0,none⟩)] h (tf (Q x))) :
  Pure prog 112 [v,.func (.func 99) #[] #[.pointer (some ⟨e,0,none⟩),.pointer (some ⟨d,0,none⟩)]] h (tf (∀ x∈l,Q x)):=by
 obtain⟨y,p,rfl,A,C⟩:=j.len;refine jc ax func112 PW U rfl ?_;conv=>whnf
 refine eF [1,7,8,9] [] (λi:Nat=>i<=l.length/\∀ x∈l.take i,Q x) (λi=>l.length-i)
  (λi=>([.v (.func (.func 99) #[] #[.pointer (some ⟨e,0,none⟩),.pointer (some ⟨d,0,none⟩)]),.v (.slice y l.length p),.v (.int .i64 l.length),.v (.int .i64 i)],[],h)) 0 ⟨Nat.zero_le _,Z⟩ rfl ?_
 rintro i ⟨B,f⟩;conv=>whnf
 apply aC<;>intro q;all_goals conv=>whnf
 ·have c:i < l.length:=by omega
  obtain⟨z,D,xs,g,o,m⟩:=j.get c;have b:=s _ (x_ c) xs m;(obtain⟨E,F,rfl,t,u⟩:=m;obtain⟨_,_,rfl,_,_⟩:=t.len;obtain⟨_,_,rfl,_,_⟩:=u.len)
  by_cases a:Q l[i]
  ·rw[eg a]at b;repeat' ((first|refine aL g ?_|refine ay ?_|refine dZ o ?_|refine au b ?_|refine av ?_)<;>conv=>whnf)
   exact cL (i+1) ⟨O,take_one c f a⟩ O rfl
  rw[cD a]at b;repeat' ((first|refine aL g ?_|refine ay ?_|refine dZ o ?_|refine au b ?_|refine av ?_)<;>conv=>whnf)
  exact⟨bU λw=>a (w _ (x_ c)),z_ h⟩
 have:i=l.length:=by omega
 subst this;rw[List.take_length]at f;exact⟨dH f,z_ h⟩
abbrev di (b:Nat):Value:=.pointer (some ⟨b,0,none⟩)
structure Ask (h:Heap) (bu bm b5 b6:Nat) (p:Option Addr) (cc:Nat) (q:Option Addr) (d:Nat) (u:aI) (po:Option Addr) (co:Nat) (pf:Option Addr) (cf:Nat) (ps:Option Addr) (cs:Nat) (M:cr):Prop where
 H6:∃ t,h bu=some (.cells [.slice p u.ak.length cc,.slice q u.methods.length d].toArray t (0,0))
 xC:∃ t,h bm=some (.cells [.slice po M.objs.length co,.slice pf M.aq.length cf,.slice ps M.said.length cs,.int .i64 M.steps,.int .i64 M.fin,.bool M.out.ref,.int .i64 M.out.n].toArray t (0,0))
 T5:∃ t,h b5=some (.cells [.func (.func 96) #[] #[di bm]].toArray t (0,0))
 ZM:∃ t,h b6=some (.cells [.func (.func 99) #[] #[di bu,di b5]].toArray t (0,0))
 cls:Row 2 uK h (.slice p u.ak.length cc) u.ak
 bz:Row 8 dz h (.slice q u.methods.length d) u.methods
 objs:Row 2 uG h (.slice po M.objs.length co) M.objs
 aq:Row 4 qu h (.slice pf M.aq.length cf) M.aq
 said:Row 1 AX h (.slice ps M.said.length cs) M.said
 hT:bS u
section
variable {h:Heap} {bu bm b5 b6:Nat} {p q po pf ps:Option Addr} {cc d co cf cs:Nat} {u:aI} {M:cr}
theorem Ask.val (a:Ask h bu bm b5 b6 p cc q d u po co pf cf ps cs M) (x:Vl):Pure prog 96 [.agg ⟨dO x⟩,di bm] h (tf (jz M.objs.length x)):=by
 obtain⟨t,b⟩:=a.xC;exact KZ x bm none po _ co _ _ _ _ _ _ t h b
theorem Ask.bp (a:Ask h bu bm b5 b6 p cc q d u po co pf cf ps cs M) (l:List Vl) (v:Value) (c:Row 2 FR h v l):Pure prog 100 [v,.func (.func 96) #[] #[di bm]] h (tf (∀ x∈l,jz M.objs.length x)) :=
 FX l v bm _ h c λx _ e b=>by
  unfold FR at b;subst b;exact a.val x
theorem K0 (a:Ask h bu bm b5 b6 p cc q d u po co pf cf ps cs M) (f:cJ) (xs:List Value) (D:qu h xs f):Pure prog 99 [.agg ⟨xs⟩,di bu,di b5] h (tf (tM u M.objs.length f)):=by
 obtain⟨I,J,rfl,t,w⟩:=D;have j:=a.bp f.locals I t;have m:=a.bp f.stack J w;obtain⟨X,N,rfl,Q,T⟩:=t.len;obtain⟨Y,P,rfl,R,V⟩:=w.len;obtain⟨tu,s⟩:=a.H6;obtain⟨t5,C⟩:=a.T5;have S:=a.bz.len;have o:=AZ (.slice p u.ak.length cc) q u.methods.length d f.aG h;have A:dP h bu 0 2=some [.slice p u.ak.length cc,.slice q u.methods.length d]:=bA s 2 0 Z;have H:rd h bu 1=some (.slice q u.methods.length d):=aY s rfl;have z:rd h b5 0=some (.func (.func 96) #[] #[di bm]):=aY C rfl;refine jc ax func99 Xb U rfl ?_;conv=>whnf
 by_cases b:0<=f.aG/\f.aG < u.methods.length
 ·rw[eg b]at o;obtain⟨L,W,vs,E,y,x⟩:=a.bz.get (i:=f.aG.toNat) O;have B:u.methods[f.aG.toNat]'O=bz u f.aG:=by unfold bz;rw[S_,w_ O];rfl
  rw[B]at x;obtain⟨_,_,_,_,rfl,_,_,_,_,_,K,_,_⟩:=x;obtain⟨_,_,rfl,_,_⟩:=K.len;have F:=aJ y (i:=4) rfl;have G:=aJ y (i:=5) rfl;refine dZ A ?_;conv=>whnf
  refine aP o ?_;conv=>whnf
  repeat' ((first|apply aC<;>intro _|refine aL E ?_|refine ay ?_|refine ld H ?_|refine ld G ?_|refine ld F ?_|refine ld z ?_|refine av ?_|refine aP (tI _ _ _ h) ?_|apply T_|exact trivial)<;>conv=>whnf)
  all_goals try first|exact⟨bU (KY O),z_ h⟩|(exfalso;omega)
  by_cases e:∀ v∈f.locals,jz M.objs.length v
  ·rw[eg e]at j;refine aP j ?_;conv=>whnf
   refine ld z ?_;conv=>whnf
   by_cases g:∀ v∈f.stack,jz M.objs.length v
   ·rw[eg g]at m;refine aP m ?_;conv=>whnf
    exact⟨dH ((xB b).2 ⟨O,O,O,e,g⟩),z_ h⟩
   rw[cD g]at m;refine aP m ?_;conv=>whnf
   exact⟨bU (λc=>g ((xB b).1 c).2.2.2.2),z_ h⟩
  rw[cD e]at j;refine aP j ?_;conv=>whnf
  exact⟨bU (λc=>e ((xB b).1 c).2.2.2.1),z_ h⟩
 rw[cD b]at o;refine dZ A ?_;conv=>whnf
 refine aP o ?_;conv=>whnf
 repeat' ((first|apply T_|exact trivial)<;>conv=>whnf)
 all_goals exact⟨bU (λc=>b c.1),z_ h⟩
theorem K1 (a:Ask h bu bm b5 b6 p cc q d u po co pf cf ps cs M):Pure prog 101 [di bm] h (tf (0<=M.steps/\M.steps<=200)):=by
 obtain⟨t,b⟩:=a.xC;refine jc ax func101 PI U rfl ?_;conv=>whnf
 refine ld (aY b rfl) ?_;conv=>whnf
 refine au (tI _ _ _ h) ?_;conv=>whnf
 exact⟨fA Iff.rfl,z_ h⟩
theorem K2 (a:Ask h bu bm b5 b6 p cc q d u po co pf cf ps cs M):Pure prog 102 [di bm] h (tf (7<=M.objs.length/\M.objs.length<=207)):=by
 obtain⟨t,b⟩:=a.xC;refine jc ax func102 PJ U rfl ?_;conv=>whnf
 refine ld (aY b rfl) ?_;conv=>whnf
 refine au (tI _ _ _ h) ?_;conv=>whnf
 exact⟨fA O,z_ h⟩
theorem K3 (a:Ask h bu bm b5 b6 p cc q d u po co pf cf ps cs M):Pure prog 103 [di bm] h (tf (M.aq.length<=4/\M.said.length<=200)):=by
 obtain⟨t,b⟩:=a.xC;refine jc ax func103 PK U rfl ?_;conv=>whnf
 repeat' ((first|apply aC<;>intro _|refine ld (aY (v:=.slice pf M.aq.length cf) b rfl) ?_|refine ld (aY (v:=.slice ps M.said.length cs) b rfl) ?_)<;>conv=>whnf)
 all_goals first|exact⟨fA O,z_ h⟩|exact⟨bU O,z_ h⟩
theorem K4 (a:Ask h bu bm b5 b6 p cc q d u po co pf cf ps cs M):Pure prog 104 [di bm] h (tf (∀ n∈M.said,isWord n=true)):=by
 obtain⟨t,c⟩:=a.xC;have k:=FY M.said _ (λn=>isWord n=true) h a.said (λx _ e _=>by
  have:=tD x h;by_cases b:isWord x=true
  ·rw[eg b,<-b];exact this
  rw[cD b,<-(show isWord x=false by simpa using b)];exact this)
 refine jc ax func104 PL U rfl ?_;conv=>whnf
 refine ld (aY c rfl) ?_;conv=>whnf
 refine au k ?_;conv=>whnf
 exact⟨rfl,z_ h⟩
theorem H7 (o:Ob) (xs:List Value) (a:uG h xs o):Pure prog 107 [.agg ⟨xs⟩] h (tf (o.cls=1)):=by
 obtain⟨v,rfl,b⟩:=a;obtain⟨_,_,rfl,_,_⟩:=b.len;refine jc ax func107 PO U rfl ?_;conv=>whnf
 exact⟨fA Iff.rfl,z_ h⟩
theorem F0 {b:Type} {sz:Nat} {R:Heap->List Value->b->Prop} {h:Heap} {p:Option Addr} {n c:Nat} {l:List b} (j:Row sz R h (.slice p n c) l) {k:Nat} (y:k<=l.length):Row sz R h (.slice p k c) (l.take k):=by
 obtain⟨v,z,t,e,w,g⟩:=j;simp only[Z_]at e;obtain⟨rfl,rfl,rfl⟩:=e;have i:(l.take k).length=k:=by rw[List.length_take];omega
 refine⟨O,p,c,by rw[i],O,?_⟩;rcases g with rfl|⟨f,s,rfl,m⟩
 ·left;simp
 exact .inr ⟨f,s,rfl,λo x a=>m o x (by
  rw[List.getElem?_take]at a;split at a
  ·exact a
  cases a)⟩
theorem K5 (a:Ask h bu bm b5 b6 p cc q d u po co pf cf ps cs M) (b:7<=M.objs.length):Pure prog 106 [di bm] h (tf (∀ o∈M.objs.take 7,o.cls=1)):=by
 obtain⟨t,c⟩:=a.xC;obtain⟨_,_,e,i,_⟩:=a.objs.len;simp only[Z_]at e;obtain⟨rfl,_,rfl⟩:=e;have k:=Df (M.objs.take 7) _ (λo=>o.cls=1) h (F0 a.objs b) (λx _ g f=>H7 x g f);refine jc ax func106 PN U rfl ?_;conv=>whnf
 refine ld (aY c rfl) ?_;conv=>whnf
 refine ay ?_;conv=>whnf
 refine au k ?_;conv=>whnf
 exact⟨rfl,z_ h⟩
theorem H8 (a:Ask h bu bm b5 b6 p cc q d u po co pf cf ps cs M) (o:Ob) (xs:List Value) (s:uG h xs o):Pure prog 109 [.agg ⟨xs⟩,di bu,di b5] h (tf (Em u M.objs.length o)):=by
 obtain⟨v,rfl,g⟩:=s;have k:=a.bp o.bp v g;obtain⟨t,i,rfl,_,_⟩:=g.len;have e:=HZ p cc u o t i h a.cls a.hT;obtain⟨w,m⟩:=a.H6;obtain⟨t5,j⟩:=a.T5;refine jc ax func109 PS U rfl ?_;conv=>whnf
 refine ld (aY m rfl) ?_;conv=>whnf
 by_cases b:T4 u o
 ·rw[eg b]at e;refine au e ?_;conv=>whnf
  refine ld (aY j rfl) ?_;conv=>whnf
  by_cases c:∀ x∈o.bp,jz M.objs.length x
  ·rw[eg c]at k;refine au k ?_;conv=>whnf
   exact⟨dH ⟨c,b⟩,z_ h⟩
  rw[cD c]at k;refine au k ?_;conv=>whnf
  exact⟨bU λf=>c f.1,z_ h⟩
 rw[cD b]at e;refine au e ?_;conv=>whnf
 exact⟨bU λf=>b f.2,z_ h⟩
theorem K6 (a:Ask h bu bm b5 b6 p cc q d u po co pf cf ps cs M):Pure prog 108 [di bm,di bu,di b5] h (tf (∀ o∈M.objs,Em u M.objs.length o)):=by
 obtain⟨t,b⟩:=a.xC;have k:=Dg M.objs _ bu b5 (λo=>Em u M.objs.length o) h a.objs (λx _ e c=>H8 a x e c);refine jc ax func108 PR U rfl ?_;conv=>whnf
 refine ld (aY b rfl) ?_;conv=>whnf
 refine au k ?_;conv=>whnf
 exact⟨rfl,z_ h⟩
theorem K7 (a:Ask h bu bm b5 b6 p cc q d u po co pf cf ps cs M):Pure prog 111 [di bm,di b6] h (tf (∀ f∈M.aq,tM u M.objs.length f)):=by
 obtain⟨t,b⟩:=a.xC;obtain⟨t6,c⟩:=a.ZM;have k:=FZ M.aq _ bu b5 (λf=>tM u M.objs.length f) h a.aq (λx _ g e=>K0 a x g e);refine jc ax func111 PV U rfl ?_;conv=>whnf
 refine ld (aY b rfl) ?_;conv=>whnf
 refine ld (aY c rfl) ?_;conv=>whnf
 refine au k ?_;conv=>whnf
 exact⟨rfl,z_ h⟩
theorem H9 (a:Ask h bu bm b5 b6 p cc q d u po co pf cf ps cs M):Pure prog 113 [di b5,di bm] h (tf (jz M.objs.length M.out/\wM M)):=by
 obtain⟨t,i⟩:=a.xC;obtain⟨t5,j⟩:=a.T5;have c:=a.val M.out;have b:=HX (.slice po M.objs.length co) (.slice ps M.said.length cs) pf cf M h;unfold dO at c;unfold aR at b;have m:dP h bm 5 2=some [.bool M.out.ref,.int .i64 M.out.n]:=bA i 2 5 Z;have o:dP h bm 0 7=some _:=bA i 7 0 Z;refine jc ax func113 PX U rfl ?_;conv=>whnf
 refine ld (aY j rfl) ?_;conv=>whnf
 refine dZ m ?_;conv=>whnf
 by_cases f:jz M.objs.length M.out
 ·rw[eg f]at c;refine au c ?_;conv=>whnf
  refine dZ o ?_;conv=>whnf
  by_cases e:wM M
  ·rw[eg e]at b;refine au b ?_;conv=>whnf
   exact⟨dH ⟨f,e⟩,z_ h⟩
  rw[cD e]at b;refine au b ?_;conv=>whnf
  exact⟨bU λg=>e g.2,z_ h⟩
 rw[cD f]at c;refine au c ?_;conv=>whnf
 exact⟨bU λg=>f g.1,z_ h⟩
def asks (bu bm b5 b6:Nat):List Value:=[.func (.func 101) #[] #[di bm],.func (.func 102) #[] #[di bm],.func (.func 103) #[] #[di bm],.func (.func 104) #[] #[di bm],.func (.func 106) #[] #[di bm],.func (.func 108) #[] #[di bm,di bu,di b5],.func (.func 111) #[] #[di bm,di b6],.func (.func 113) #[] #[di b5,di bm]]
def oD (u:aI) (M:cr):List Prop:=[0<=M.steps/\M.steps<=200,7<=M.objs.length/\M.objs.length<=207,M.aq.length<=4/\M.said.length<=200,∀ n∈M.said,isWord n=true,∀ o∈M.objs.take 7,o.cls=1,∀ o∈M.objs,Em u M.objs.length o,∀ f∈M.aq,tM u M.objs.length f,jz M.objs.length M.out/\wM M]
theorem B7 (u:aI) (M:cr):(∀ c∈oD u M,c)↔kn u M:=by
 rw[HY];simp only[oD,List.mem_cons,List.not_mem_nil,or_false,forall_eq_or_imp,forall_eq];constructor
 ·rintro⟨j,m,a,o,s,b,t,e⟩;refine⟨⟨j,m,a.1,a.2⟩,e.1,λi f=>⟨b _ (x_ f),λx=>s _ ?_⟩,t,o,e.2⟩;rw[List.mem_take_iff_getElem];exact⟨i,O,rfl⟩
 rintro⟨⟨j,m,a,o⟩,s,b,t,e,v⟩;refine⟨j,m,⟨a,o⟩,e,λw g=>?_,λw g=>?_,t,s,v⟩
 ·rw[List.mem_take_iff_getElem]at g;obtain⟨i,f,rfl⟩:=g;exact(b i O).2 O
 obtain⟨i,f,rfl⟩:=List.mem_iff_getElem.1 g;exact(b i f).1
theorem Ia (a:Ask h bu bm b5 b6 p cc q d u po co pf cf ps cs M) {j:Nat} {t8:TypeId} (f:h j=some (.cells (asks bu bm b5 b6).toArray t8 (0,0))):Pure prog 65 [.slice (some ⟨j,0,none⟩) 8 8] h (tf (kn u M)):=by
 refine jc ax func65 PF Mk rfl ?_;conv=>whnf
 refine eF [5,6,7] [] (λi:Nat=>i<=8/\∀ c∈(oD u M).take i,c) (λi=>8-i)
  (λi=>([.v (.slice (some ⟨j,0,none⟩) 8 8),.v (.int .i64 8),.v (.int .i64 i)],[],h)) 0 ⟨Nat.zero_le _,Z⟩ rfl ?_
 rintro i ⟨x,o⟩;conv=>whnf
 apply aC<;>intro t;all_goals conv=>whnf
 ·have s:i < (oD u M).length:=by simp[oD];omega
  have e:(oD u M)[i]->∀ c∈(oD u M).take (i+1),c:=λm=>take_one (Q:=λc=>c) s o m;have g:¬(oD u M)[i]->¬kn u M:=λm w=>m ((B7 u M).2 w _ (x_ s));have v:i=0\/i=1\/i=2\/i=3\/i=4\/i=5\/i=6\/i=7:=by omega
  refine ay ?_;conv=>whnf
  refine ptr ?_;conv=>whnf
  rcases v with rfl|rfl|rfl|rfl|rfl|rfl|rfl|rfl
  ·refine ld (aY (i:=0) f rfl) ?_;conv=>whnf
   refine j6 (K1 a) (λb=>?_) (λb=>?_)
   ·conv=>whnf
    refine av ?_;conv=>whnf
    exact cL (0+1) ⟨O,e b⟩ O rfl
   conv=>whnf
   exact⟨bU (g b),z_ h⟩
  ·refine ld (aY (i:=1) f rfl) ?_;conv=>whnf
   refine j6 (K2 a) (λb=>?_) (λb=>?_)
   ·conv=>whnf
    refine av ?_;conv=>whnf
    exact cL (1+1) ⟨O,e b⟩ O rfl
   conv=>whnf
   exact⟨bU (g b),z_ h⟩
  ·refine ld (aY (i:=2) f rfl) ?_;conv=>whnf
   refine j6 (K3 a) (λb=>?_) (λb=>?_)
   ·conv=>whnf
    refine av ?_;conv=>whnf
    exact cL (2+1) ⟨O,e b⟩ O rfl
   conv=>whnf
   exact⟨bU (g b),z_ h⟩
  ·refine ld (aY (i:=3) f rfl) ?_;conv=>whnf
   refine j6 (K4 a) (λb=>?_) (λb=>?_)
   ·conv=>whnf
    refine av ?_;conv=>whnf
    exact cL (3+1) ⟨O,e b⟩ O rfl
   conv=>whnf
   exact⟨bU (g b),z_ h⟩
  ·refine ld (aY (i:=4) f rfl) ?_;conv=>whnf
   refine j6 (K5 a (o (7<=M.objs.length/\M.objs.length<=207) (by simp[oD])).1) (λb=>?_) (λb=>?_)
   ·conv=>whnf
    refine av ?_;conv=>whnf
    exact cL (4+1) ⟨O,e b⟩ O rfl
   conv=>whnf
   exact⟨bU (g b),z_ h⟩
  ·refine ld (aY (i:=5) f rfl) ?_;conv=>whnf
   refine j6 (K6 a) (λb=>?_) (λb=>?_)
   ·conv=>whnf
    refine av ?_;conv=>whnf
    exact cL (5+1) ⟨O,e b⟩ O rfl
   conv=>whnf
   exact⟨bU (g b),z_ h⟩
  ·refine ld (aY (i:=6) f rfl) ?_;conv=>whnf
   refine j6 (K7 a) (λb=>?_) (λb=>?_)
   ·conv=>whnf
    refine av ?_;conv=>whnf
    exact cL (6+1) ⟨O,e b⟩ O rfl
   conv=>whnf
   exact⟨bU (g b),z_ h⟩
  refine ld (aY (i:=7) f rfl) ?_;conv=>whnf
  refine j6 (H9 a) (λb=>?_) (λb=>?_)
  ·conv=>whnf
   refine av ?_;conv=>whnf
   exact cL (7+1) ⟨O,e b⟩ O rfl
  conv=>whnf
  exact⟨bU (g b),z_ h⟩
 have:i=8:=by omega
 subst this;exact⟨dH ((B7 u M).1 (by simpa [oD]using o)),z_ h⟩
end
theorem F1 (I mc:List Value) (u:aI) (M:cr) (h:Heap) (hu:dn h I u) (hT:bS u) (hM:AY h mc M):Pure prog 41 [.agg ⟨I⟩,.agg ⟨mc⟩] h (tf (kn u M)):=by
 obtain⟨D,q,H,w,rfl,hcs,lR,jq,hl2⟩:=hu.form;obtain⟨vo,vf,vs,rfl,J,K,L⟩:=hM;obtain⟨F,t,rfl,ZN,PB⟩:=J.len;obtain⟨E,s,rfl,ZO,Ly⟩:=K.len;obtain⟨G,v,rfl,ZP,ZQ⟩:=L.len;unfold aR;refine jc ax func41 Wz U rfl ?_;conv=>whnf
 refine cZ [.slice D u.ak.length q,.slice H u.methods.length w] rfl (λi h1 ZR e1 l1 R=>?_);conv=>whnf
 refine cZ [.slice F M.objs.length t,.slice E M.aq.length s,.slice G M.said.length v,.int .i64 M.steps,.int .i64 M.fin,.bool M.out.ref,.int .i64 M.out.n] rfl (λg h2 LH e2 B S=>?_);conv=>whnf
 refine cZ [.nilFunc] rfl (λd h3 wB e3 l3 T=>?_);conv=>whnf
 refine Bv T [.func (.func 96) #[] #[di g]] Z rfl (λf P V=>?_);conv=>whnf
 refine cZ [.nilFunc] rfl (λe h5 A e5 l5 W=>?_);conv=>whnf
 refine Bv W [.func (.func 99) #[] #[di i,di d]] Z rfl (λx Q X=>?_);conv=>whnf
 refine cZ (asks i g d e) rfl (λb8 y ZS e7 o Y=>?_);have n35:f e=none:=A;have k4:∀ z,z≠d->f z=h3 z:=λz j=>by rw[P];simp[Heap.set,j]
 have k6:∀ z,z≠e->x z=h5 z:=λz j=>by rw[Q];simp[Heap.set,j]
 have ZT:h2.le f:=λz p c=>by
  rw[k4 z (by rintro rfl;rw[wB]at c;cases c)];exact l3 z p c
 have C:f.le x:=λz p c=>by
  rw[k6 z (by rintro rfl;rw[A]at c;cases c)];exact l5 z p c
 have m:=y_ ZT (y_ C o);have a:h.le y:=y_ l1 (y_ B m);have N:Ask y i g d e D q H w u F t E s G v M:=⟨⟨_,m _ _ (B _ _ R)⟩,⟨_,m _ _ S⟩,⟨_,o _ _ (C _ _ V)⟩,⟨_,o _ _ X⟩,hcs.le a (λ_ _ b=>b.le a),lR.le a (λ_ _ b=>b.le a),J.le a (λ_ _ b=>uG.le a b),K.le a (λ_ _ b=>qu.le a b),L.le a (λ_ _ b=>b),hT⟩
 conv=>whnf
 refine au (Ia N Y) ?_;conv=>whnf
 exact⟨rfl,a⟩
open Go.Vc Go.Proofs.Tryz
set_option maxRecDepth 100000
set_option maxHeartbeats 4000000
section
variable {u u':aI}
end
open Go.Vc Go.Proofs.Tryz
set_option maxRecDepth 100000
set_option maxHeartbeats 4000000
section
variable {u u':aI}
end
open Go.Vc Go.Proofs.Tryz
set_option maxRecDepth 100000
set_option maxHeartbeats 4000000
def sO (objs:List Ob) (v:Vl):Int:=if v.ref=false then 1 else if v.n=0 then 2 else typeOf (aM objs v.n).cls
def jP (cs:List dB) (objs:List Ob) (l:List Vl) (a:List Int):Prop:=l.length<=a.length/\∀ i (b:i < l.length) (c:i < a.length),dQ cs (sO objs l[i]) a[i]=true
theorem sP {u:aI} {M:cr} (c:bS u) (h:kn u M) {k:Int} (h0:0 < k) (d:k<=M.objs.length) : -2<=(aM M.objs k).cls/\(aM M.objs k).cls < u.ak.length:=by
 have f:=c.1.1;have a:(k-1).toNat < M.objs.length:=by omega
 have e:aM M.objs k=M.objs[(k-1).toNat]:=by unfold aM;rw[S_,w_ a];rfl
 rw[e];rcases(h.objs _ (x_ a)).2 with b|b<;>omega
theorem T6 {u:aI} {M:cr} (a:bS u) (h:kn u M) {v:Vl} (c:jz M.objs.length v):0<=sO M.objs v/\sO M.objs v < 8+(u.ak.length:Int):=by
 have d:=a.1.1;unfold sO;split
 ·omega
 rename_i b;have:=c.1 (by simpa using b);split
 ·omega
 have:=sP a h (k:=v.n) O this.2;unfold typeOf;split
 ·omega
 split<;>omega
theorem bS.N2 {u:aI} (a:bS u):AE u:=⟨a.1,λm b=>by
 have h:=(a.2.2.2.1 m b).1;exact⟨by have:=h.2.1;omega,h.2.2.2.1,h.2.2.1⟩⟩
theorem gJ.Pj {u:aI} {m:bT} (h:gJ u m):LG u m where
 mi:=⟨h.1,⟨h.2.1.1,h.2.1.2.1⟩,h.2.1.2.2.2.1,h.2.2⟩
 num:=h.2.1.2.2.1
 val s hs a:=by
  rcases h.2.1.2.2.2.2 s hs with ⟨e,_⟩|⟨_,b,c,d,f⟩
  ·rw[a]at e;cases e
  exact⟨b,λt a=>by have:=d t a;unfold ej at this;omega,λt a=>by have:=(f t a).2;unfold ej at this;omega,c⟩
theorem vP {u:aI} {m:bT} (g:AE u) (b:LG u m):∀(k i:Nat) (s:cz) (comes:Bool) (out:List cz),i+k=m.code.length->mY u.ak.length m.locals s->(∀ r∈out,mY u.ak.length m.locals r)->∀ r∈(cB u m k i s comes out).1,mY u.ak.length m.locals r
 | 0,_,_,_,_,_,_,ho=>ho
 | k+1,i,s,comes,out,hi,hs,ho=>by
  have d:i < m.code.length:=by omega
  have f:mY u.ak.length m.locals (if (cF m i).told=true then cF m i else s):=by
   split
   ·rename_i j;have h:i < m.aF.length:=by rw[b.num];exact d
    have e:cF m i=m.aF[i]:=by unfold cF;rw[Int.toNat_natCast];exact cI h
    rw[e]at j ⊢;exact b.val _ (x_ h) j
   exact hs
  have p:dw u m (bM m i):=by
   have e:bM m i=m.code[i]:=by unfold bM;rw[Int.toNat_natCast];exact cI d
   rw[e];exact b.mi.code _ (x_ d)
  have c:∀ r∈out++[if (cF m i).told=true then cF m i else s],mY u.ak.length m.locals r:=λr a=>by
   rcases u_.1 a with a|a
   ·exact ho r a
   rw[V_.1 a];exact f
  rw[cB];generalize (if (cF m i).told=true then cF m i else s)=t at f c;split
  ·exact ho
  split
  ·exact ho
  split
  ·exact c
  rename_i q o;split
  ·have:=vP g b k (i+1) q (!eo (bM m i)) (out++[t]) O (nM g f p _ o).1 c;simpa using this
  exact c
theorem LO {u:aI} (b:bS u) {m:bT} (a:gJ u m):∀ r∈(bK u m).1,mY u.ak.length m.locals r :=
 vP b.N2 a.Pj _ 0 _ _ _ O (kT a.1 b.1.2.1) Z
def eG (u:aI) (o:Ob):List Int:=if 0<=o.cls then bV u.ak o.cls else List.replicate o.bp.length (if o.cls = -2 then 8 else 1)
theorem iF {u:aI} {m:bT} {x:dc} (b:dw u m x):(x.kind=20->0<=x.a/\x.a < u.methods.length)/\(x.kind=21->0<=x.a/\x.a < u.ak.length):=by
 obtain⟨e,c,d⟩:=x;refine⟨λa=>?_,λa=>?_⟩
 ·simp only at a;subst a;have:=(aS (p:=7) (q:=0) rfl).1 b;simp[bh]at this;exact this.1.1
 simp only at a;subst a;have:=(aS (p:=5) (q:=9) rfl).1 b;simp[bh]at this;exact this.1
theorem qv {u:aI} {m:bT} {x:dc} (h:dw u m x):1<=x.kind/\x.kind<=24:=by
 obtain⟨p,q,a,_⟩:=h;have:=List.mem_map_of_mem (f:=Prod.fst) (qP a);simp[gS]at this;omega
theorem qw {u:aI} {m:bT} {x:dc} (h:dw u m x):(x.kind=1->isWord x.a=true)/\(x.kind=3\/x.kind=4->0<=x.a/\x.a < m.locals)/\(8<=x.kind/\x.kind<=11->0<=x.a/\x.a < m.code.length)/\(x.kind=13\/x.kind=15\/x.kind=16->x.a=0\/x.a=1):=by
 obtain⟨k,c,d⟩:=x;refine⟨λa=>?_,λa=>?_,λa=>?_,λa=>?_⟩
 ·simp only at a;subst a;have:=(aS (p:=1) (q:=0) rfl).1 h;simpa [bh]using this.1
 ·simp only at a;rcases a with rfl|rfl
  ·have:=(aS (p:=2) (q:=0) rfl).1 h;simpa [bh]using this.1
  have:=(aS (p:=2) (q:=0) rfl).1 h;simpa [bh]using this.1
 ·simp only at a;have b:k=8\/k=9\/k=10\/k=11:=by omega
  rcases b with rfl|rfl|rfl|rfl;all_goals
   have:=(aS (p:=4) (q:=0) rfl).1 h;simpa [bh]using this.1
 simp only at a;rcases a with rfl|rfl|rfl;all_goals
  have:=(aS (p:=6) (q:=0) rfl).1 h;simpa [bh]using this.1
def jQ (u:aI) (f:cJ):dc:=(bz u f.aG).code.getD f.pc.toNat dR
def fm (u:aI) (f:cJ):cz:=(bK u (bz u f.aG)).1.getD f.pc.toNat iR
def K8 (u:aI) (x:dc):Int:=if x.kind=21 then find u x.a x.b else x.a
structure VQ (u:aI) (M:cr) (i:Nat) (f:cJ):Prop where
 ok:(bK u (bz u f.aG)).2=true
 pc:f.pc < (bK u (bz u f.aG)).1.length
 loc:jP u.ak M.objs f.locals (fm u f).locals
 cA:jP u.ak M.objs f.stack (fm u f).stack
 top:i+1=M.aq.length->f.stack.length=(fm u f).stack.length
 low:i+1 < M.aq.length->0<=bG u (jQ u f)/\(f.stack.length:Int)=(fm u f).stack.length-bG u (jQ u f)
 ZU:∀(h:i+1 < M.aq.length),dQ u.ak (bz u M.aq[i+1].aG).out (bz u (K8 u (jQ u f))).out=true
theorem j7 {u:aI} {k:Int} (h:0<=k/\k < u.methods.length):u.methods[k.toNat]'O=bz u k:=by
 unfold bz;rw[S_,w_ O];rfl
theorem rZ {u:aI} {m:bT}:∀(k:Nat) (i:Int) (s:cz) (comes:Bool) (out:List cz),(cB u m k i s comes out).1.length<=out.length+k
 | 0,_,_,_,_=>by rw[cB];simp
 | k+1,i,s,comes,out=>by
  rw[cB];generalize (if (cF m i).told=true then cF m i else s)=a;split
  ·show out.length<=_;omega
  split
  ·show out.length<=_;omega
  split
  ·show(out++[a]).length<=_;simp only[U_,List.length_singleton];omega
  rename_i b _;split
  ·have:=rZ k (i+1) b (!eo (bM m i)) (out++[a]) (u:=u) (m:=m);simp only[U_,List.length_singleton]at this;omega
  show(out++[a]).length<=_;simp only[U_,List.length_singleton];omega
theorem Jf (u:aI) (m:bT):(bK u m).1.length<=m.code.length:=by
 have:=rZ m.code.length 0 (dF m) true [] (u:=u) (m:=m);simpa [bK]using this
theorem K9 {u:aI} {x:dc} (h:0<=bG u x):x.kind=20\/x.kind=21/\0<=find u x.a x.b:=by
 unfold bG at h;split at h
 ·left;assumption
 split at h
 ·right
  refine⟨by assumption,?_⟩;split at h
  ·assumption
  omega
 omega
theorem qx {u:aI} (a:bS u) (k:Int):(bz u k).args.length<=2:=by
 unfold bz;rw[S_];cases h:u.methods[k.toNat]? with
 | none=>simp[Iz]
 | some m=>exact(a.2.2.2.1 m (List.mem_of_getElem? h)).1.2.1
def nj (u:aI):Prop:=∀ m∈u.methods,(bK u m).2=true
structure T7 (u:aI) (M:cr):Prop where
 unit:bS u
 ok:kn u M
 pass:nj u
 fin:M.fin≠3
 objs:∀ o∈M.objs,jP u.ak M.objs o.bp (eG u o)
 aq:∀ i (hi:i < M.aq.length),VQ u M i M.aq[i]
structure Oj (u:aI) (M:cr):Prop where
 fit:T7 u M
 done:M.fin=1->sO M.objs M.out=1
 T8:M.fin=2->dQ u.ak (sO M.objs M.out) 9=true
theorem uv {u:aI} {m:bT}:∀(k i:Nat) (s:cz) (comes:Bool) (out:List cz),out.length=i->(cB u m k i s comes out).2=true->(∀ j,j < i->(cB u m k i s comes out).1[j]? = out[j]?)/\(cB u m k i s comes out).1.length=i+k/\∀ j:Nat,i<=j->j < i+k->∃ t nx,(cB u m k i s comes out).1[j]? = some t/\stepT u m (bM m j) t=some nx
 | 0,i,s,comes,out,ho,h=>by
  rw[cB]at h ⊢;exact⟨λ_ _=>rfl,by simpa using ho,λj q e=>absurd e O⟩
 | k+1,i,s,comes,out,ho,h=>by
  rw[cB]at h ⊢;generalize (if (cF m i).told=true then cF m i else s)=c at h ⊢;split at h
  ·cases h
  rename_i g;rw[if_neg g];split at h
  ·cases h
  rename_i o;rw[if_neg o];cases b:stepT u m (bM m i) c with
  | none=>rw[b]at h;cases h
  | some nx =>
   rw[b]at h;simp only at h ⊢;split at h
   ·rename_i p;rw[if_pos p];obtain⟨a,f,d⟩:=uv k (i+1) nx (!eo (bM m i)) (out++[c]) (by simp[ho]) h;rw[show((i+1:Nat):Int)=(i:Int)+1 by omega]at a f d;refine⟨λj w=>?_,O,λj q e=>?_⟩
    ·rw[a j O,List.getElem?_append_left O]
    by_cases v:j=i
    ·subst v;exact⟨c,nx,by rw[a j O];simp[<-ho],b⟩
    exact d j O O
   cases h
def La (u:aI) (s t:cz):Prop:=t=s\/oS u.ak s t=true
theorem uw {u:aI} {m:bT}:∀(k i:Nat) (s:cz) (comes:Bool) (out:List cz),out.length=i->(cB u m k i s comes out).2=true ->
  (∀ j,j < i->(cB u m k i s comes out).1[j]? = out[j]?)/\(comes=true->∃ t,(cB u m k i s comes out).1[i]? = some t/\La u s t) /\
  ∀ j:Nat,i<=j->j < i+k->∃ t nx,(cB u m k i s comes out).1[j]? = some t/\((cF m j).told=true->t=cF m j)/\stepT u m (bM m j) t=some nx/\gO u m j t nx=true/\(eo (bM m j)=false->∃ y,(cB u m k i s comes out).1[j+1]? = some y/\La u nx y)
 | 0,i,s,comes,out,ho,h=>by
  rw[cB]at h ⊢;refine⟨λ_ _=>rfl,λd=>?_,λj A q=>absurd q O⟩;rw[d]at h;cases h
 | k+1,i,s,comes,out,ho,h=>by
  rw[cB]at h ⊢;generalize w:(if (cF m i).told=true then cF m i else s)=a at h ⊢;split at h
  ·cases h
  rename_i o;rw[if_neg o];split at h
  ·cases h
  rename_i z;rw[if_neg z];cases e:stepT u m (bM m i) a with
  | none=>rw[e]at h;cases h
  | some nx =>
   rw[e]at h;simp only at h ⊢;split at h
   ·rename_i p;rw[if_pos p];obtain⟨c,f,g⟩:=uw k (i+1) nx (!eo (bM m i)) (out++[a]) (by simp[ho]) h;rw[show((i+1:Nat):Int)=(i:Int)+1 by omega]at c f g;have v:(cB u m k ((i:Int)+1) nx (!eo (bM m i)) (out++[a])).1[i]? = some a:=by rw[c i O];simp[<-ho]
    have x:(cF m i).told=true->a=cF m i:=λb=>by rw[<-w,if_pos b]
    refine⟨λj E=>?_,λd=>⟨a,v,?_⟩,λj A q=>?_⟩
    ·rw[c j O,List.getElem?_append_left O]
    ·by_cases b:(cF m i).told=true
     ·right
      rw[x b];cases C:oS u.ak s (cF m i)
      ·exact absurd ⟨b,d,C⟩ o
      rfl
     left;rw[<-w,if_neg b]
    by_cases D:j=i
    ·subst D;exact⟨a,nx,v,x,e,p,λB=>f (by rw[B];rfl)⟩
    exact g j O O
   cases h
theorem ux {u:aI} {m:bT} (h:(bK u m).2=true) {i:Nat} (b:i < m.code.length):∃ t nx,(bK u m).1[i]? = some t/\((cF m i).told=true->t=cF m i)/\stepT u m (bM m i) t=some nx/\gO u m i t nx=true/\(eo (bM m i)=false->∃ a,(bK u m).1[i+1]? = some a/\La u nx a) :=
 (uw m.code.length 0 (dF m) true [] rfl h).2.2 i O O
theorem Ib {o:Type} {sz m:Nat} {R:Heap->List Value->o->Prop} {h:Heap} {p:Option Addr} {n c:Nat} {l:List o} {K:Option Addr->Prop} (y:Row sz R h (.slice p n c) l) (x:m < l.length) (w:∀ d,Row sz R h (.slice d (n-m) (c-m)) (l.drop m)->K d):Sub p c m sz K:=by
 refine sub λj u E=>w j ?_;obtain⟨D,d,C,e,F,v⟩:=y;simp only[Z_]at e;obtain⟨rfl,rfl,rfl⟩:=e;refine⟨by simp;omega,j,c-m,Z,by simp;omega,?_⟩;rcases v with rfl|⟨b,a,rfl,z⟩
 ·simp at x
 have e:=u O;have:(Option.map (λq=>Addr.add q (m*sz)) (some ⟨b,a,none⟩):Option Addr)=some ⟨b,a+m*sz,none⟩:=by
  simp only[Option.map_some,Addr.add];by_cases g:m*sz=0
  ·simp[g]
  rw[if_neg g]
 rw[this]at e;refine .inr ⟨b,a+m*sz,e,λi B f=>?_⟩;obtain⟨A,s,t⟩:=z (m+i) B (by rw[List.getElem?_drop]at f;exact f);exact⟨A,by rw[show a+m*sz+i*sz=a+(m+i)*sz by rw[Nat.add_mul];omega];exact s,t⟩
end Go.Proofs
namespace Go.Proofs.Lb
set_option maxRecDepth 100000
set_option maxHeartbeats 4000000
open Go.RowKit Go.Extern.Stop Go.Stop Go.Extern Go.Proofs.Tryz
theorem F2 (v:Value) (w:World):(Extern.ReflectliteType.typeOf #[.iface 290 v]).run prog w=.ok (.iface 172 (.agg #[.pointer (some ⟨1,290,none⟩)])) w:=by kernel_rfl
theorem xD (w:World):((Extern.ReflectliteType.method λt=>do Go.Extern.Rtype.noPackHeld "Comparable" t;(λa=>Value.bool a.comparable) <$> typeInfo t) #[.agg #[.pointer (some ⟨1,290,none⟩)]]).run prog w=.ok (.bool true) w:=by kernel_rfl
theorem qy (v:Value) (w:World):(Go.method 426 172 v "Comparable").run prog w=.ok (292,v) w:=by kernel_rfl
theorem Ic:(prog.info? 290).map (·.comparable)=some true:=by kernel_rfl
theorem Ie:(prog.info? 314).map (·.size)=some 1:=by kernel_rfl
theorem Ok (v:Value) (a:TypeId) (w:World):(Instr.typeAssert (.iface 108 v) a 174 true).run prog w=.ok (.tuple #[.nilIface,.bool false]) w:=run_typeAssert_lacksB Tryz.underlying174 (by kernel_rfl) (by kernel_rfl) v a w
theorem A0 (v:Value) (a:TypeId) (w:World):(Instr.typeAssert (.iface 108 v) a 177 true).run prog w=.ok (.tuple #[.iface 108 v,.bool true]) w:=run_typeAssert_hasB Tryz.underlying177 (by kernel_rfl) v a w
theorem uT (v:Value) (w:World):(Go.method 426 108 v "Unwrap").run prog w=.ok (288,v) w:=by kernel_rfl
theorem Lc (b:Addr) (w:World):Calls prog 39 #[.nilIface,.iface 290 (.pointer (some b))] w λe w'=>e=.returned (.bool false)/\w'=w:=by
 have a:=run_eql_iface_nil_left (P:=prog) w 290 (.pointer (some b)) Tryz.underlying68;go_enter func39,Tryz.ntmps39
 go_wp2
 go_ret
 exact⟨rfl,rfl⟩
theorem Dh (s:Value) (b:Addr) (w:World) (g:w.cell? ⟨0,0,none⟩=some (.iface 290 (.pointer (some b)))) :
  Calls prog 39 #[.iface 108 s,.iface 290 (.pointer (some b))] w λe w'=>e=.returned (.bool true)/\w'=w:=by
 obtain⟨p,c,a⟩:=Option.map_eq_some_iff.1 Ic;obtain⟨q,d,m⟩:=Option.map_eq_some_iff.1 Ie;have i:=@run_callFunc_extern prog 88 _ Extern.ReflectliteType.typeOf func88 (by kernel_rfl) (by kernel_rfl) (by kernel_rfl) (by kernel_rfl);have h:=@run_callFunc_extern prog 292 _ (Extern.ReflectliteType.method λt=>do Go.Extern.Rtype.noPackHeld "Comparable" t;pure (.bool (<-typeInfo t).comparable)) func292 (by kernel_rfl) (by kernel_rfl) (by kernel_rfl) (by kernel_rfl);have y:=F2;have f:=xD;have u:=qy;have x:=Ok;have z:=A0;have v:=uT;have j:=run_eql_iface_ptr_same (P:=prog) w b Tryz.underlying68 Tryz.underlying290 c a d;have o:=run_eql_iface_types (P:=prog) 108 290 s (.pointer (some b)) Tryz.underlying68 (by decide) w;go_enter func39,Tryz.ntmps39
 go_wp2
 refine wp_loop_rounds 2 ?_;rw[rounds_succ];go_wp2
 rw[rounds_succ];go_wp2
 go_ret
 exact⟨rfl,rfl⟩
end Go.Proofs.Lb
namespace Go.Proofs
open Go.Vc Go.Proofs.Tryz
set_option maxRecDepth 100000
set_option maxHeartbeats 4000000
def GlE (h:Heap):Prop:=∃ b:Addr,rd h 0 0=some (.iface 290 (.pointer (some b)))
theorem GlE.le {h a:Heap} (c:h.le a) (g:GlE h):GlE a:=by
 obtain⟨b,e⟩:=g;exact⟨b,cW c e⟩
def broken (s:Value):Value:=.iface 108 s
theorem Ig (b:Addr) (h:Heap):Pure prog 39 [.nilIface,.iface 290 (.pointer (some b))] h (.bool false):=by
 intro w a;refine(Lb.Lc b w).mono ?_;rintro e c ⟨rfl,rfl⟩;exact⟨h,cQ.refl a,rfl,rfl⟩
theorem A1 (s:Value) (b:Addr) (h:Heap) (a:rd h 0 0=some (.iface 290 (.pointer (some b)))):Pure prog 39 [broken s,.iface 290 (.pointer (some b))] h (.bool true):=by
 intro w d;have e:w.cell? ⟨0,0,none⟩=some (.iface 290 (.pointer (some b))):=by
  unfold rd at a;cases c:h 0 with
  | none=>rw[c]at a;cases a
  | some o =>
   rw[c]at a;have:=d 0 o c;unfold World.cell?;rw[this];cases o<;>first|exact a|cases a
 refine(Lb.Dh s b w e).mono ?_;rintro f g ⟨rfl,rfl⟩;exact⟨h,cQ.refl d,rfl,rfl⟩
def fY (u:aI) (m:bT) (x:dc):Option (List Int) :=
 if x.kind=4\/x.kind=5\/x.kind=6\/x.kind=14 then some [0]
 else if x.kind=7\/x.kind=8\/x.kind=9 then some [1,1]
 else if x.kind=10\/x.kind=19 then some [8]
 else if x.kind=13\/x.kind=24 then some [1]
 else if x.kind=15 then some [fS x.a,1]
 else if x.kind=16 then some [fS x.a,1,bW x.a]
 else if x.kind=17 then some [8+x.a]
 else if x.kind=18 then some [8+x.a,(bV u.ak x.a).getD x.b.toNat 0]
 else if x.kind=20 then some (bz u x.a).args
 else if x.kind=21 then (if find u x.a x.b < 0 then none else some ((8+x.a)::(bz u (find u x.a x.b)).args))
 else if x.kind=22 then some [m.out]
 else if x.kind=23 then some [9]
 else some []
def fo (u:aI) (x:dc) (a b:List Int):Option (List Int) :=
 if x.kind=1\/x.kind=7\/x.kind=14 then some [1]
 else if x.kind=2 then some [2]
 else if x.kind=3 then (if a.getD x.a.toNat 0=0 then none else some [a.getD x.a.toNat 0])
 else if x.kind=6 then some [b.getD 0 0,b.getD 0 0]
 else if x.kind=12\/x.kind=19 then some [8+x.a]
 else if x.kind=13 then some [fS x.a]
 else if x.kind=15 then some [bW x.a]
 else if x.kind=17 then some [(bV u.ak x.a).getD x.b.toNat 0]
 else if x.kind=20\/x.kind=21 then some [(bz u (K8 u x)).out]
 else some []
def iT (u:aI) (m:bT) (x:dc) (s:cz):Option cz:=match fY u m x with
 | none=>none
 | some a =>
  if s.stack.length < a.length then none
  else if cU u.ak (s.stack.drop (s.stack.length-a.length)) a=false then none
  else if x.kind=14/\dQ u.ak ((s.stack.drop (s.stack.length-a.length)).getD 0 0) 3=false/\dQ u.ak ((s.stack.drop (s.stack.length-a.length)).getD 0 0) 4=false then none
  else match fo u x s.locals (s.stack.drop (s.stack.length-a.length))with
   | none=>none
   | some left=>if 4 < s.stack.length-a.length+left.length then none
    else some ⟨true,if x.kind=4 then s.locals.set x.a.toNat ((s.stack.drop (s.stack.length-a.length)).getD 0 0)else s.locals,s.stack.take (s.stack.length-a.length)++left⟩
theorem oX {cs:List dB} {t:Int}:cU cs [t] [0]=true:=by
 simp[cU,dQ]
theorem lA {cs:List dB} {s:cz} {a:List Int}:fe cs s a=if s.stack.length < a.length then none else if cU cs (s.stack.drop (s.stack.length-a.length)) a=false then none else some {s with stack:=s.stack.take (s.stack.length-a.length)}:=by
 unfold fe oz;by_cases h:s.stack.length < a.length
 ·rw[if_neg (by simp;omega),if_pos h]
 rw[if_neg h];cases b:cU cs (s.stack.drop (s.stack.length-a.length)) a
 ·simp
 simp;omega
theorem vQ {s:cz} {n:Nat} {t:Int} (a:n<=s.stack.length) (c:t≠0) (b:s.told=true):eS (some {s with stack:=s.stack.take n}) t=if 4 < n + [t].length then none else some ⟨true,s.locals,s.stack.take n++[t]⟩:=by
 unfold eS;simp only[List.length_take,List.length_singleton];rw[Nat.min_eq_left a];by_cases h:4 < n+1
 ·rw[if_pos O,if_pos h]
 rw[if_neg O,if_neg h,b]
theorem sQ {cs:List dB} {s:cz} {a:List Int} {t:Int} (c:t≠0) (b:s.told=true):eS (fe cs s a) t=if s.stack.length < a.length then none else if cU cs (s.stack.drop (s.stack.length-a.length)) a=false then none else if 4 < s.stack.length-a.length + [t].length then none else some ⟨true,s.locals,s.stack.take (s.stack.length-a.length)++[t]⟩:=by
 rw[lA];split
 ·rfl
 split
 ·rfl
 exact vQ O c b
theorem xE {s:cz} {t:Int} (b:t≠0) (a:s.told=true):eS (some s) t=if 4 < s.stack.length-([]:List Int).length + [t].length then none else some ⟨true,s.locals,s.stack.take (s.stack.length-([]:List Int).length)++[t]⟩:=by
 have:=vQ (s:=s) (n:=s.stack.length) (t:=t) (Nat.le_refl _) b a;simpa using this
theorem nQ {u:aI} {m:bT} {x:dc} {s:cz} (j:bS u) (P:gJ u m) (i:dw u m x) (b:s.told=true) (f:s.stack.length<=4) (C:∀ t∈s.stack,t≠0):iT u m x s=stepT u m x s:=by
 have N:=qv i;have Q:=qw i;obtain⟨E,F⟩:=i.iJ;have p:=iF i;have pop:∀ c:List Int,fe u.ak s c=if s.stack.length < c.length then none else if cU u.ak (s.stack.drop (s.stack.length-c.length)) c=false then none else if 4 < s.stack.length-c.length+([]:List Int).length then none else some ⟨true,s.locals,s.stack.take (s.stack.length-c.length)++[]⟩:=λc=>by
  rw[lA];split
  ·rfl
  split
  ·rfl
  rw[if_neg (by simp;omega),List.append_nil,b]
 have L:fS x.a≠0:=by unfold fS;split<;>omega
 have M:bW x.a≠0:=by unfold bW;split<;>omega
 have A:x.kind=17->(bV u.ak x.a).getD x.b.toNat 0≠0:=λk=>by
  have y:=E O;have K:=F O;have d:x.b.toNat < (bV u.ak x.a).length:=by omega
  rw[cI d];have:=eM j.1 _ (Nat.lt_succ_self _) y.2 _ (x_ d);unfold bL at this;omega
 have v:∀ k:Int,0<=k/\k < u.methods.length->(bz u k).out≠0:=λk w=>by
  have:=(j.bz w).1.2.2.1;unfold bL at this;omega
 have g:x.kind=1\/x.kind=2\/x.kind=3\/x.kind=4\/x.kind=5\/x.kind=6\/x.kind=7\/x.kind=8\/x.kind=9\/x.kind=10\/x.kind=11\/x.kind=12\/x.kind=13\/x.kind=14\/x.kind=15\/x.kind=16\/x.kind=17\/x.kind=18\/x.kind=19\/x.kind=20\/x.kind=21\/x.kind=22\/x.kind=23\/x.kind=24:=by omega
 have q:∀ l:List Int,cU u.ak l []=true:=λl=>by cases l<;>rfl
 unfold iT fY fo;rcases g with k|k|k|k|k|k|k|k|k|k|k|k|k|k|k|k|k|k|k|k|k|k|k|k;all_goals unfold stepT
 all_goals try unfold kr
 all_goals try unfold oR
 all_goals simp[k]
 all_goals first
  | (rw[xE (by first|omega|assumption) b];simp[q];done)
  | (rw[sQ (by first|omega|assumption) b];simp;done)
  | (rw[pop];simp;done)
  | skip
 ·rw[q];by_cases e:s.locals[x.a.toNat]?.getD 0=0
  ·simp[e,eS]
  rw[xE e b];simp[e]
 ·rcases List.eq_nil_or_concat s.stack with a|⟨r,t,a⟩
  ·simp[a]
  rw[List.concat_eq_append]at a;have h:r.length < 4:=by rw[a]at f;simp at f;omega
  simp[a,oX,b];omega
 ·rcases List.eq_nil_or_concat s.stack with a|⟨r,t,a⟩
  ·simp[a]
  rw[List.concat_eq_append]at a;have D:t≠0:=C t (by rw[a];simp);have g:=xE D b;simp only[a]at g ⊢;simp[oX]at g ⊢;rw[g];by_cases h:4 < r.length+2
  ·rw[if_pos h,if_pos O]
  rw[if_neg h,if_neg O,List.take_of_length_le Z];simp
 ·exact⟨q _,f,by obtain⟨t,I,J⟩:=s;simp only at b;rw[b]⟩
 ·rcases List.eq_nil_or_concat s.stack with a|⟨r,t,a⟩
  ·rw[lA,lA];simp[a,eS]
  rw[List.concat_eq_append]at a;have h:r.length < 4:=by rw[a]at f;simp at f;omega
  rw[lA,lA];have d:cU u.ak [t] [3]=dQ u.ak t 3:=by simp[cU]
  have z:cU u.ak [t] [4]=dQ u.ak t 4:=by simp[cU]
  have B:(r++[t])[r.length]?.getD 0=t:=by simp
  simp only[a,U_,List.length_singleton,Nat.add_sub_cancel,List.drop_left,List.take_left,oX,d,z,B];generalize dQ u.ak t 3=G;generalize dQ u.ak t 4=H;cases G<;>cases H<;>simp[eS,b,show ¬4<=r.length by omega,show ¬4 < r.length+1 by omega]
 ·rw[sQ (by have:=A k;simpa using this) b];simp
 ·unfold qe K8;have e:¬x.a < 0:=by have:=p.1 k;omega
  simp[k,e];rw[sQ (v _ (p.1 k)) b];simp
 unfold qe K8;simp[k];by_cases o:find u x.a x.b < 0
 ·simp[o]
 have d:=(nI j.1 (s:=x.b) _ (Nat.lt_succ_self _) (p.2 k).2 O).2.2;rw[if_neg o,if_neg o,sQ (v _ ⟨O,d⟩) b];simp
set_option pp.maxSteps 400
def Ol (h:Heap) (v:Value) (r:Option (List Int)):Prop:=match r with
 | none=>∃ a s,v=.tuple #[a,broken s]
 | some l=>∃ p c,v=.tuple #[.slice p l.length c,.nilIface]/\bP h (.slice p l.length c) l
theorem gQ {h:Heap} {cs:List Value} {t:TypeId} {K:Nat->Heap->Prop} (l:List Int) (e:cs=l.map (Value.int .i64)) (f:∀ t∈l,cy t) (j:l.length<=1000000) (g:∀ b a,h.le a->bP a (.slice (some ⟨b,0,none⟩) l.length l.length) l->K b a):zB h cs t K :=
 cZ cs rfl λb d _ _ i c=>g b d i (gA (rest:=[]) (t:=t) (fz:=(0,0)) (by rw[c,e];simp) O (Nat.le_refl _) f)
theorem nq (a:Int) (h:Heap):Pure prog 262 [.int .i64 a] h (.int .i64 (fS a)):=by
 refine gF ax func262 Rs U rfl ?_;conv=>whnf
 apply aC<;>intro g;all_goals conv=>whnf
 ·exact⟨by unfold fS;rw[if_pos g],rfl⟩
 exact⟨by unfold fS;rw[if_neg g],rfl⟩
theorem mm (a:Int) (h:Heap):Pure prog 152 [.int .i64 a] h (.int .i64 (bW a)):=Ac a h
theorem zn {K:Value->Heap->Prop} {E:List PanicEntry->Heap->Prop} {p:Option Addr} {n c:Nat} {cs:List dB} {x:Int} {h:Heap} (j:eP h (.slice p n c) cs) (ok:bX cs) (d:0<=x/\x < cs.length)
  (i:∀ a e b,h.le a->bP a (.slice e (bV cs x).length b) (bV cs x)->K (.slice e (bV cs x).length b) a):gD prog 153 [.slice p n c,.int .i64 x] h K E :=
 cP (gh (x.toNat+1) p n c cs x h j ok d.1 d.2 O) λv a m=>by
  obtain⟨g,B,own,_⟩:=m;obtain⟨e,b,rfl,_⟩:=own.form;have u:=eL ok d.2;have s:=ok.2.1;obtain⟨q,f⟩:=cM own O λt o=>by
   have:=dS (eM ok (x.toNat+1) O d.2 t o);unfold cy;omega
  simp only[List.length_map]at f ⊢;exact⟨g,i a e b g f⟩
theorem bP.read {h:Heap} {v:Value} {l:List Int} (p:bP h v l) (o:l.length<=1000000):Bu h v l:=by
 obtain⟨_,t,e,rfl,m,j⟩:=p;refine⟨by simpa using o,λx a=>by obtain⟨w,_,rfl⟩:=List.mem_map.1 a;rfl,t,e,Z,by simpa using m,?_⟩;rcases j with rfl|⟨d,s,rfl,a⟩
 ·exact .inl rfl
 right
 obtain⟨u,b,c,f⟩:=zm (sz:=1) a;refine⟨d,s,rfl,?_⟩;have:u=l.map bD:=List.ext_getElem (by simp[c]) λq g i=>by
  have:=(f q g (by simpa using i)).1.1;rw[this];simp[bD]
 rw[<-this];simp only[Nat.mul_one]at b;rw[c];simpa using b
theorem sR {K:Value->Heap->Prop} {E:List PanicEntry->Heap->Prop} {h:Heap} {v:Value} {l:List Int} (d:bP h v l) (o:l.length<=1000) (g:∀ a p c,h.le a->bP a (.slice p l.length c) l->K (.slice p l.length c) a):gD prog 131 [v] h K E :=
 cP (mK v l h (d.read O)) λq a i=>by
  obtain⟨e,B,own,_⟩:=i;obtain⟨j,f,rfl,_⟩:=own.form;obtain⟨m,b⟩:=cM own O (fy d);simp only[List.length_map]at b ⊢;exact⟨e,g a j f e b⟩
theorem Ih {h:Heap} {b:Nat} {t:TypeId} {x:Int} (g0:h b=some (.cells #[.int .i64 x] t (0,0))):dM h (.slice (some ⟨b,0,none⟩) 1 1) [x] [b] :=
 ⟨by simp[bD],.inr ⟨b,1,[],t,rfl,Z,by simpa [bD]using g0,by simp[bD],rfl⟩⟩
theorem Di (j g:List Value) (u:aI) (m:bT) (a b:Int) (h:Heap) (z:dn h j u) (w:dz h g m) (e:bS u) (q:0<=a/\a < u.methods.length) :
  bq prog 238 [.agg ⟨j⟩,.agg ⟨g⟩,.agg #[.int .i64 20,.int .i64 a,.int .i64 b]] h λv d=>h.le d/\Ol d v (fY u m ⟨20,a,b⟩):=by
 obtain⟨V,I,aa,L,rfl,Q,x,R,S⟩:=z.form;have N:=e.1.2.1;obtain⟨F,T,VR,y,C,c⟩:=x.get (i:=a.toNat) O;rw[j7 q]at c;obtain⟨W,G,X,H,Y,J,pd,K,rfl,_,_,_,_,f,_⟩:=c.form;subst y;have D:=aJ C (i:=2) rfl;have P:=qx e a;obtain⟨_,_,_,_,_,_,_,_,rfl,_⟩:=w.form;refine bE ax func238 DX Bm rfl ?_;conv=>whnf
 repeat' ((first|refine ay ?_|refine aL rfl ?_|refine ld D ?_|apply T_|exact trivial)<;>conv=>whnf)
 refine aB (mK _ _ h (f.read O)) (λv' M s=>?_);obtain⟨A,E,own,_⟩:=s;obtain⟨B,o,rfl,_⟩:=own.form;obtain⟨p,t⟩:=cM own O (fy f);conv=>whnf
 rw[p];exact⟨A,B,o,rfl,t⟩
theorem Dj (w s:List Value) (u:aI) (m:bT) (a b:Int) (h:Heap) (o:dn h w u) (F:dz h s m) (f:bS u) (C : -1<=a/\a < u.ak.length) :
  bq prog 238 [.agg ⟨w⟩,.agg ⟨s⟩,.agg #[.int .i64 21,.int .i64 a,.int .i64 b]] h λv j=>h.le j/\Ol j v (fY u m ⟨21,a,b⟩):=by
 have K:=o;obtain⟨ab,Y,ad,aa,rfl,hcs,G,jq,hl2⟩:=o.form;have h5:=f.1.2.1;have J:fY u m ⟨21,a,b⟩=if find u a b < 0 then none else some ((8+a)::(bz u (find u a b)).args):=rfl
 have E:cH u ⟨21,a,b⟩=find u a b:=rfl;have c:=oI _ u ⟨21,a,b⟩ h K f.1 (λ_=>C);rw[E]at c;obtain⟨t,B⟩:∃ t,t=find u a b:=⟨_,rfl⟩
 rw[J];rw[<-B]at c ⊢;obtain⟨_,_,_,_,_,_,_,_,rfl,_⟩:=F.form;by_cases d:t < 0
 ·rw[if_pos d];refine bE ax func238 DX Bm rfl ?_;conv=>whnf
  refine au c ?_;conv=>whnf
  refine fD d ?_;conv=>whnf
  exact⟨z_ h,_,_,rfl⟩
 rw[if_neg d];have I:0<=t/\t < u.methods.length:=by have:=eD u a b;omega
 obtain⟨T,om,VR,H,N,g⟩:=G.get (i:=t.toNat) O;rw[j7 I]at g;obtain⟨pa,W,pb,X,ZV,XA,pd,cd,rfl,_,_,_,_,p,_⟩:=g.form;have Q:=aJ N (i:=2) rfl;have Tt:=qx f t;have z:=fy p;have A:∀ x∈([]++[8+a])++(bz u t).args,cy x:=λx e=>by
  simp only[List.nil_append,List.cons_append,List.mem_cons]at e;rcases e with rfl|e
  ·unfold cy;omega
  exact z x e
 refine bE ax func238 DX Bm rfl ?_;conv=>whnf
 refine au c ?_;conv=>whnf
 refine cu d ?_;conv=>whnf
 refine av ?_;conv=>whnf
 refine ay ?_;conv=>whnf
 refine aL H ?_;conv=>whnf
 refine ld Q ?_;conv=>whnf
 refine cZ [.int .i64 (8+a)] rfl (λS h1 D e0 q y=>?_);conv=>whnf
 have M:=Ih y;refine uP q p ?_;conv=>whnf
 refine gj (l:=[8+a]) M (by simpa using D) q rfl (by simp;omega) A (λp2 V h2 R L o2 P n2=>?_);conv=>whnf
 exact⟨L,_,_,rfl,P⟩
theorem Ii (F D:List Value) (u:aI) (m:bT) (k a b:Int) (h:Heap) (A:dn h F u) (x:dz h D m) (o:bS u) (L:eC u.ak.length m) (q:dw u m ⟨k,a,b⟩) :
  bq prog 238 [.agg ⟨F⟩,.agg ⟨D⟩,.agg #[.int .i64 k,.int .i64 a,.int .i64 b]] h λv j=>h.le j/\Ol j v (fY u m ⟨k,a,b⟩):=by
 have B:=A;have N:=qv q;have P:=(qw q).2.2.2;obtain⟨z,E⟩:=q.iJ;have y:=iF q;have h5:=o.1.2.1;have VS:=dS L.2.2.1;simp only at N P z E y;obtain⟨aa,cc,ab,d,rfl,M,lR,jq,hl2⟩:=A.form;obtain⟨p1,Y,p2,c2,p3,c3,p4,c4,rfl,k1,k2,k3,k4,k5,k6,k7,k8,d1,d2,d3,d4⟩:=x.form;have S:∀ {t:Int},0<=t->t<=1000->cy t:=λh0 f=>by unfold cy;omega
 have J3:0<=fS a/\fS a<=1000:=by unfold fS;split<;>omega
 have Al:0<=bW a/\bW a<=1000:=by unfold bW;split<;>omega
 have i:∀ {l:List Int} {t:TypeId} {K:Nat->Heap->Prop},(∀ t∈l,0<=t/\t<=1000)->l.length<=10->(∀ b j,h.le j->bP j (.slice (some ⟨b,0,none⟩) l.length l.length) l->K b j)->zB h (l.map (Value.int .i64)) t K:=λ{l t K} f I J=>gQ l rfl (λt p=>S (f t p).1 (f t p).2) O J;by_cases G:k=20
 ·subst G;exact Di _ _ u m a b h B x o (y.1 rfl)
 by_cases H:k=21
 ·subst H;exact Dj _ _ u m a b h B x o (by have:=y.2 rfl;omega)
 have Q:k=1\/k=2\/k=3\/k=4\/k=5\/k=6\/k=7\/k=8\/k=9\/k=10\/k=11\/k=12\/k=13\/k=14\/k=15\/k=16\/k=17\/k=18\/k=19\/k=22\/k=23\/k=24:=by omega
 refine bE ax func238 DX Bm rfl ?_;rcases Q with rfl|rfl|rfl|rfl|rfl|rfl|rfl|rfl|rfl|rfl|rfl|rfl|rfl|rfl|rfl|rfl|rfl|rfl|rfl|rfl|rfl|rfl;all_goals conv=>whnf
 ·exact⟨z_ h,none,0,rfl,dX h _ _⟩
 ·exact⟨z_ h,none,0,rfl,dX h _ _⟩
 ·exact⟨z_ h,none,0,rfl,dX h _ _⟩
 ·refine i (l:=[0]) Z Z (λg f e c=>?_);conv=>whnf
  exact⟨e,_,_,rfl,c⟩
 ·refine i (l:=[0]) Z Z (λg f e c=>?_);conv=>whnf
  exact⟨e,_,_,rfl,c⟩
 ·refine i (l:=[0]) Z Z (λg f e c=>?_);conv=>whnf
  exact⟨e,_,_,rfl,c⟩
 ·refine i (l:=[1,1]) Z Z (λg f e c=>?_);conv=>whnf
  exact⟨e,_,_,rfl,c⟩
 ·refine i (l:=[1,1]) Z Z (λg f e c=>?_);conv=>whnf
  exact⟨e,_,_,rfl,c⟩
 ·refine i (l:=[1,1]) Z Z (λg f e c=>?_);conv=>whnf
  exact⟨e,_,_,rfl,c⟩
 ·refine i (l:=[8]) Z Z (λg f e c=>?_);conv=>whnf
  exact⟨e,_,_,rfl,c⟩
 ·exact⟨z_ h,none,0,rfl,dX h _ _⟩
 ·exact⟨z_ h,none,0,rfl,dX h _ _⟩
 ·refine i (l:=[1]) Z Z (λg f e c=>?_);conv=>whnf
  exact⟨e,_,_,rfl,c⟩
 ·refine i (l:=[0]) Z Z (λg f e c=>?_);conv=>whnf
  exact⟨e,_,_,rfl,c⟩
 ·refine au (nq a h) ?_;conv=>whnf
  refine i (l:=[fS a,1]) (by simp;omega) Z (λg f e c=>?_);conv=>whnf
  exact⟨e,_,_,rfl,c⟩
 ·refine aP (nq a h) ?_;conv=>whnf
  refine aP (mm a h) ?_;conv=>whnf
  refine i (l:=[fS a,1,bW a]) (by simp;omega) Z (λg f e c=>?_);conv=>whnf
  exact⟨e,_,_,rfl,c⟩
 ·have s:=z O;refine av ?_;conv=>whnf
  refine i (l:=[8+a]) (by simp;omega) Z (λg f e c=>?_);conv=>whnf
  exact⟨e,_,_,rfl,c⟩
 ·have s:=z O;have hb:=E O;have w:b.toNat < (bV u.ak a).length:=by omega
  have xK:=dS (eM o.1 _ (Nat.lt_succ_self _) s.2 _ (x_ w));refine av ?_;conv=>whnf
  refine zn M o.1 s (λf p' X e c=>?_);conv=>whnf
  obtain⟨W,of5,R,V⟩:=c.at w;repeat' ((first|refine ay ?_|refine aL R ?_|refine ld V ?_|apply T_|exact trivial)<;>conv=>whnf)
  refine gQ [8+a,(bV u.ak a)[b.toNat]] rfl (λt p=>by simp only[List.mem_cons,List.not_mem_nil,or_false]at p;unfold cy;omega) Z (λg I T C=>?_);conv=>whnf
  rw[<-cI (d:=0) w]at C;exact⟨y_ e T,_,_,rfl,C⟩
 ·refine i (l:=[8]) Z Z (λg f e c=>?_);conv=>whnf
  exact⟨e,_,_,rfl,c⟩
 ·refine i (l:=[m.out]) (by simp;omega) Z (λg f e c=>?_);conv=>whnf
  exact⟨e,_,_,rfl,c⟩
 ·refine i (l:=[9]) Z Z (λg f e c=>?_);conv=>whnf
  exact⟨e,_,_,rfl,c⟩
 refine i (l:=[1]) Z Z (λg f e c=>?_);conv=>whnf
 exact⟨e,_,_,rfl,c⟩
theorem xF (q:List Value) (u:aI) (k a b:Int) (G I:Value) (o p:List Int) (h:Heap) (m:dn h q u) (w:bS u) (c:k=20\/k=21) (x:k=20->0<=a/\a < u.methods.length) (g:k=21->(0<=a/\a < u.ak.length)/\0<=find u a b) :
  bq prog 239 [.agg ⟨q⟩,.agg #[.int .i64 k,.int .i64 a,.int .i64 b],G,I] h λv f=>h.le f/\Ol f v (fo u ⟨k,a,b⟩ o p):=by
 have B:=m;obtain⟨aa,P,ab,S,rfl,V,y,W,X⟩:=m.form;have e:=oI _ u ⟨k,a,b⟩ h B w.1 (λs=>by have:=g s;simp only;omega);have A:fo u ⟨k,a,b⟩ o p=some [(bz u (cH u ⟨k,a,b⟩)).out]:=by
  rcases c with rfl|rfl<;>rfl
 rw[A];have j:0<=cH u ⟨k,a,b⟩/\cH u ⟨k,a,b⟩ < u.methods.length:=by
  rcases c with rfl|rfl
  ·exact x rfl
  exact⟨(g rfl).2,(eD u a b).2⟩
 generalize cH u ⟨k,a,b⟩=t at e j;obtain⟨L,Y,VR,z,H,d⟩:=y.get (i:=t.toNat) O;rw[j7 j]at d;obtain⟨pa,M,pb,N,ZV,Q,pd,R,rfl,_,_,E,_⟩:=d.form;have J:=aJ H (i:=3) rfl;refine bE ax func239 DY Bn rfl ?_;rcases c with rfl|rfl;all_goals conv=>whnf
 all_goals refine aP e ?_
 all_goals conv=>whnf
 all_goals refine ay ?_
 all_goals conv=>whnf
 all_goals refine aL z ?_
 all_goals conv=>whnf
 all_goals refine ld J ?_
 all_goals conv=>whnf
 all_goals refine gQ [(bz u t).out] rfl (λad C=>by rw[V_.1 C];exact E) Z (λK T F D=>?_)
 all_goals conv=>whnf
 all_goals exact⟨F,_,_,rfl,D⟩
theorem F3 (H:List Value) (u:aI) (m:bT) (k a b:Int) (lp S:Option Addr) (T R:Nat) (f s:List Int) (h:Heap) (G:dn h H u) (B:bS u) (o:dw u m ⟨k,a,b⟩) (M:bP h (.slice lp f.length T) f) (P:bP h (.slice S s.length R) s) (uO:(f.length:Int)=m.locals) (w:k=6->s.length=1) (hf:k=21->0<=find u a b) :
  bq prog 239 [.agg ⟨H⟩,.agg #[.int .i64 k,.int .i64 a,.int .i64 b],.slice lp f.length T,.slice S s.length R] h λv y=>h.le y/\Ol y v (fo u ⟨k,a,b⟩ f s):=by
 have tH:=G;have hk:=qv o;have N:=qw o;obtain⟨q,V⟩:=o.iJ;have F:=iF o;have h5:=B.1.2.1;simp only at hk N q V F;by_cases X:k=20\/k=21
 ·exact xF H u k a b _ _ f s h G B X F.1 (λJ=>⟨F.2 J,hf J⟩)
 obtain⟨ab,cc,ad,d,rfl,hcs,lR,jq,hl2⟩:=G.form;have J3:0<=fS a/\fS a<=1000:=by unfold fS;split<;>omega
 have Al:0<=bW a/\bW a<=1000:=by unfold bW;split<;>omega
 have p:∀ {l:List Int} {t:TypeId} {K:Nat->Heap->Prop},(∀ t∈l,0<=t/\t<=1000)->l.length<=10->(∀ b y,h.le y->bP y (.slice (some ⟨b,0,none⟩) l.length l.length) l->K b y)->zB h (l.map (Value.int .i64)) t K:=λ{l t K} g h2 h3=>gQ l rfl (λt w=>by have:=g t w;unfold cy;omega) O h3;by_cases Y:k=3
 ·subst Y;have hA:=N.2.1 O;have D:a.toNat < f.length:=by omega
  have hg:f.getD a.toNat 0=f[a.toNat]:=cI D;obtain⟨I,W,z,x⟩:=M.at D;have A:=fy M _ (x_ D);have w:fo u ⟨3,a,b⟩ f s=if f.getD a.toNat 0=0 then none else some [f.getD a.toNat 0]:=rfl
  rw[w,hg];generalize f[a.toNat]=t at x A;refine bE ax func239 DY Bn rfl ?_;conv=>whnf
  refine ay ?_;conv=>whnf
  refine aL z ?_;conv=>whnf
  refine ld x ?_;conv=>whnf
  apply aC<;>intro C;all_goals conv=>whnf
  ·rw[if_pos C];exact⟨z_ h,_,_,rfl⟩
  rw[if_neg C];refine ay ?_;conv=>whnf
  refine aL z ?_;conv=>whnf
  refine ld x ?_;conv=>whnf
  refine gQ [t] rfl (λaa o=>by rw[V_.1 o];exact A) Z (λj g e c=>?_);conv=>whnf
  exact⟨e,_,_,rfl,c⟩
 by_cases g6:k=6
 ·subst g6;obtain⟨t,rfl⟩:∃ t,s=[t]:=List.length_eq_one_iff.1 (w rfl);obtain⟨I,W,z,x⟩:=P.at (i:=0) Z;have A:=fy P t Z;refine bE ax func239 DY Bn rfl ?_;conv=>whnf
  repeat' ((first|refine ob Z ?_|refine aL z ?_|refine ld x ?_|apply T_|exact trivial)<;>conv=>whnf)
  refine gQ [t,t] rfl (λaa o=>by simp at o;rw[o];exact A) Z (λj g e c=>?_);conv=>whnf
  exact⟨e,_,_,rfl,c⟩
 have hp:k=1\/k=2\/k=4\/k=5\/k=7\/k=8\/k=9\/k=10\/k=11\/k=12\/k=13\/k=14\/k=15\/k=16\/k=17\/k=18\/k=19\/k=22\/k=23\/k=24:=by omega
 refine bE ax func239 DY Bn rfl ?_;rcases hp with rfl|rfl|rfl|rfl|rfl|rfl|rfl|rfl|rfl|rfl|rfl|rfl|rfl|rfl|rfl|rfl|rfl|rfl|rfl|rfl;all_goals conv=>whnf
 all_goals try exact⟨z_ h,none,0,rfl,dX h _ _⟩
 ·refine p (l:=[1]) Z Z (λj g e c=>?_);conv=>whnf
  exact⟨e,_,_,rfl,c⟩
 ·refine p (l:=[2]) Z Z (λj g e c=>?_);conv=>whnf
  exact⟨e,_,_,rfl,c⟩
 ·refine p (l:=[1]) Z Z (λj g e c=>?_);conv=>whnf
  exact⟨e,_,_,rfl,c⟩
 ·refine tA (by have:=q O;omega) (by have:=q O;omega) ?_;conv=>whnf
  refine p (l:=[8+a]) (by have:=q O;simp;omega) Z (λj g e c=>?_);conv=>whnf
  exact⟨e,_,_,rfl,c⟩
 ·refine au (nq a h) ?_;conv=>whnf
  refine p (l:=[fS a]) (by simp;omega) Z (λj g e c=>?_);conv=>whnf
  exact⟨e,_,_,rfl,c⟩
 ·refine p (l:=[1]) Z Z (λj g e c=>?_);conv=>whnf
  exact⟨e,_,_,rfl,c⟩
 ·refine au (mm a h) ?_;conv=>whnf
  refine p (l:=[bW a]) (by simp;omega) Z (λj g e c=>?_);conv=>whnf
  exact⟨e,_,_,rfl,c⟩
 ·have L:=q O;have hb:=V O;have E:b.toNat < (bV u.ak a).length:=by omega
  have xK:=dS (eM B.1 _ (Nat.lt_succ_self _) L.2 _ (x_ E));refine zn hcs B.1 L (λg p' c' e c=>?_);conv=>whnf
  obtain⟨I,W,z,x⟩:=c.at E;repeat' ((first|refine ay ?_|refine aL z ?_|refine ld x ?_|apply T_|exact trivial)<;>conv=>whnf)
  refine gQ [(bV u.ak a)[b.toNat]] rfl (λt w=>by simp only[List.mem_cons,List.not_mem_nil,or_false]at w;unfold cy;omega) Z (λj h2 l2 Q=>?_);conv=>whnf
  rw[<-cI (d:=0) E]at Q;exact⟨y_ e l2,_,_,rfl,Q⟩
 refine tA (by have:=q O;omega) (by have:=q O;omega) ?_;conv=>whnf
 refine p (l:=[8+a]) (by have:=q O;simp;omega) Z (λj g e c=>?_);conv=>whnf
 exact⟨e,_,_,rfl,c⟩
set_option pp.maxSteps 600
theorem Ij (n:Nat) (h:Heap) (x:n<=1000) :
  bq prog 263 [.slice none 0 0,.int .i64 n] h λv a=>h.le a/\∃ B,dM a v [] B/\∀ b∈B,h b=none:=by
 refine bE ax func263 Rt U rfl ?_;conv=>whnf
 refine av ?_;conv=>whnf
 refine av ?_;conv=>whnf
 apply aC<;>intro g;all_goals conv=>whnf
 ·refine ob Z ?_;conv=>whnf
  refine DT ax (n:=n) rfl rfl rfl rfl rfl rfl rfl ⟨by show _*8<=_;omega,O⟩ ?_;refine dh (h0:=h) (xs:=[]) (ys:=List.replicate n [.int .i64 0]) (B:=[]) ⟨Z,.inl ⟨rfl,rfl,rfl⟩⟩ Z (z_ h) rfl Z Z ?_ rfl (by simp;omega) (by simp;omega) ?_
  ·have:=cR (List.replicate n 0);rw[List.map_replicate]at this;rw[List.flatten_replicate_singleton];exact this
  intro y a p d i j q s;obtain⟨u,m⟩:=i;rcases m with ⟨rfl,o,_⟩|⟨b,c,rest,t,rfl,w,e,f,rfl⟩
  ·simp at o;omega
  conv=>whnf
  refine ob Z ?_;conv=>whnf
  refine⟨d,[b],⟨Z,.inr ⟨b,c,(List.replicate n [Value.int .i64 0]).flatten++rest,t,rfl,Z,by simpa using e,by simpa using f,rfl⟩⟩,j⟩
 exact⟨z_ h,[],⟨Z,.inl ⟨rfl,rfl,rfl⟩⟩,Z⟩
theorem Dk (b off c:Nat) (L a:Nat->List Int) (h:Heap) (q:∀ i,i < 2->∃ p c,rd h b (off+i)=some (.slice p (L i).length c)/\bP h (.slice p (L i).length c) (L i)) (h0:a 0=[]) (f:∀ i,a (i+1)=a i++L i) (o:∀ i,i<=2->(a i).length<=1000) :
  bq prog 240 [.slice (some ⟨b,off,none⟩) 2 c] h λv z=>h.le z/\∃ p c,v=.slice p (a 2).length c/\bP z (.slice p (a 2).length c) (a 2):=by
 have Q:∀ i,i<=2->∀ t∈a i,cy t:=by
  intro i;induction i with
  | zero=>intro _ t d;rw[h0]at d;cases d
  | succ i R =>
   intro g t d;rw[f]at d;rcases u_.1 d with d|d
   ·exact R O t d
   obtain⟨p,c,_,g⟩:=q i O;exact fy g t d
 refine bE ax func240 Rm U rfl ?_;conv=>whnf
 refine eF [0,3,9,10,11] [] (λi:Nat=>i<=2) (λi=>2-i) (λi=>([.v (.slice (some ⟨b,off,none⟩) 2 c),.v (.int .i64 (a i).length),.v (.slice (some ⟨b,off,none⟩) 2 c),.v (.int .i64 2),.v (.int .i64 i)],[],h)) 0 O (by rw[h0];rfl) ?_;rintro i g;conv=>whnf
 apply aC<;>intro m;all_goals conv=>whnf
 ·obtain⟨p,G,w,_⟩:=q i O;have N:=o (i+1) O;have e:=congrArg List.length (f i);rw[U_]at e;refine ay ?_;conv=>whnf
  refine aL rfl ?_;conv=>whnf
  refine ld (by simpa using w) ?_;conv=>whnf
  refine av ?_;conv=>whnf
  try refine bZ ?_
  conv=>whnf
  refine av ?_;conv=>whnf
  refine cL (i+1) O O ?_;rw[e];rfl
 have:i=2:=by omega
 subst this;refine aB (Ij (a 2).length h (o 2 O)) (λv1 J M=>?_);obtain⟨S,E,s,V⟩:=M;conv=>whnf
 obtain⟨p1,H,rfl,_⟩:=s.form;have e0:(List.map bD []).length=0:=rfl;refine eF [6,25,26,27] [] (λy:Nat × Option Addr × Nat × Heap × List Nat=>y.1<=2/\h.le y.2.2.2.1/\dM y.2.2.2.1 (.slice y.2.1 (a y.1).length y.2.2.1) (a y.1) y.2.2.2.2/\bP y.2.2.2.1 (.slice y.2.1 (a y.1).length y.2.2.1) (a y.1)/\∀ b∈y.2.2.2.2,h b=none) (λy=>2-y.1) (λy=>([.v (.slice y.2.1 (a y.1).length y.2.2.1),.v (.slice (some ⟨b,off,none⟩) 2 c),.v (.int .i64 2),.v (.int .i64 y.1)],[],y.2.2.2.1)) (0,p1,H,J,E) ⟨O,S,by rw[h0];exact s,by rw[h0];exact(cM s Z Z).2,V⟩ (by rw[h0];rfl) ?_;rintro⟨i,p2,I,h2,B2⟩ ⟨g,j,Y,P,W⟩;conv=>whnf
 apply aC<;>intro m;all_goals conv=>whnf
 ·obtain⟨p,G,w,ri⟩:=q i O;have N:=o (i+1) O;have K:=Q (i+1) O;have e:=congrArg List.length (f i);have B:=f i;rw[U_]at e;refine ay ?_;conv=>whnf
  refine aL rfl ?_;conv=>whnf
  refine ld (by simpa using cW j w) ?_;conv=>whnf
  refine uP j ri ?_;conv=>whnf
  refine gj Y W j rfl (by simp only;omega) (by rw[<-B];exact K) (λD x A F T u C X=>?_);conv=>whnf
  refine av ?_;conv=>whnf
  rw[<-B]at u C;rw[<-e]at u;refine cL (i+1,D,x,A,F) ⟨O,T,u,C,X⟩ (by simp only;omega) ?_;exact(congrArg (λn:Nat=>([Slot.v (.slice D n x),.v (.slice (some ⟨b,off,none⟩) 2 c),.v (.int .i64 2),.v (.int .i64 (i+1:Nat))],([]:List (Option (List Value))),A)) (congrArg List.length (f i))).trans rfl
 have:i=2:=by omega
 subst this;exact⟨j,p2,I,rfl,P⟩
theorem nR {b:Nat} {g j:Option Addr} {e f:Nat} {a d:List Int} {t:TypeId} {h:Heap} (m:h b=some (.cells #[.slice g a.length e,.slice j d.length f] t (0,0))) (s:bP h (.slice g a.length e) a) (u:bP h (.slice j d.length f) d) (w:a.length+d.length<=1000) :
  bq prog 240 [.slice (some ⟨b,0,none⟩) 2 2] h λv o=>h.le o/\∃ p c,v=.slice p (a++d).length c/\bP o (.slice p (a++d).length c) (a++d):=by
 have:=Dk b 0 2 (λi=>match i with | 0=>a | 1=>d|_=>[]) (λi=>match i with | 0=>[] | 1=>a | 2=>a++d|_=>a++d) h (λi q=>by
  rcases i with _|_|i
  ·exact⟨g,e,by simp[rd,m],s⟩
  ·exact⟨j,f,by simp[rd,m],u⟩
  ·omega) rfl (λi=>by
  rcases i with _|_|_|i<;>simp) (λi q=>by
  rcases i with _|_|_|i<;>simp<;>omega)
 exact this
end Go.Proofs
