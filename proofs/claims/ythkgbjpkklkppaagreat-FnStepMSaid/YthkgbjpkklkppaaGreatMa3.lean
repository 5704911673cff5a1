/- Part 3 of the lemmas on which the law rests: what functions of the program and of the reference do; no conditions but those that each lemma states. -/
import Derived.Test.YthkgbjpkklkppaaGreatMa2
set_option linter.unusedSimpArgs false
set_option linter.unusedVariables false
namespace Go.Proofs
open Go.Vc Go.Proofs.Tryz
set_option maxRecDepth 100000
set_option maxHeartbeats 4000000
theorem DF (d b:List Value) (u:aS) (m:cu) (c:kg) (h:Heap) (g:cZ h d u) (f:dO h b m) (ok:cn u.aq) (K:cH c.lo/\cH c.hi/\cH c.to/\cH c.cls) :
  Pure prog 113 [.agg ⟨d⟩,.agg ⟨b⟩,.agg #[.int .i64 c.lo,.int .i64 c.hi,.int .i64 c.to,.int .i64 c.cls]] h (tf (rS u m c)):=by
 obtain⟨L,x,R,y,rfl,e,J,H,I⟩:=g.form;obtain⟨M,s,N,t,P,v,Q,w,rfl,z,A,B,C,D,E,F,G,j,o,p,q⟩:=f.form;refine fD aB func113 RL U rfl ?_;conv=>whnf
 repeat' ((first|apply aD<;>intro _|apply aU<;>intro _|apply dM<;>intro _|apply cq<;>intro _|refine ax (de _ _ _ _) ?_|refine ax (pE _ _ _ _ _ _ _ e ok O O O) ?_|refine ay ?_|refine av ?_|refine ptr ?_)<;>conv=>whnf)
 all_goals first
  | exact⟨bS (by unfold rS;omega),rfl⟩
  | skip
 all_goals refine⟨?_,rfl⟩
 all_goals first
  | (cases a:up u.aq c.cls 1 with
   | true=>exact dx ⟨O,O,O,a⟩
   | false=>exact bS (λi=>by rw[i.2.2.2]at a;cases a))
theorem Fo (g o:List Value) (m n:cu) (h:Heap) (J:dO h g m) (K:dO h o n) :
  Pure prog 114 [.agg ⟨g⟩,.agg ⟨o⟩] h (tf (m.out=n.out/\m.args=n.args)):=by
 obtain⟨M,s,P,u,R,w,T,y,rfl,h1,h2,h3,h4,E,h6,h7,h8,b1,b2,b3,b4⟩:=J.form;obtain⟨N,t,Q,v,S,x,V,z,rfl,k1,k2,k3,k4,L,k6,k7,k8,d1,d2,d3,d4⟩:=K.form;refine fD aB func114 RM U rfl ?_;conv=>whnf
 apply aU<;>intro c;all_goals conv=>whnf
 ·exact⟨bS (λa=>c a.1),rfl⟩
 apply aU<;>intro e;all_goals conv=>whnf
 ·exact⟨bS (λa=>e (by rw[a.2])),rfl⟩
 have I:m.args.length=n.args.length:=by omega
 refine eu [2,3,5] [2,3] (λi:Nat=>i<=m.args.length/\∀ j (b:j < m.args.length),j < i->m.args[j]=n.args[j]) (λi=>m.args.length-i)
  (λi=>([.l 2 0,.l 3 0,.v (.int .i64 i)],
   [some [.int .i64 m.cls,.int .i64 m.er,.slice M m.args.length s,.int .i64 m.out,.int .i64 m.locals,.slice P m.code.length u,.slice R m.aT.length w,.slice T m.catches.length y],some [.int .i64 n.cls,.int .i64 n.er,.slice N n.args.length t,.int .i64 n.out,.int .i64 n.locals,.slice Q n.code.length v,.slice S n.aT.length x,.slice V n.catches.length z]],h)) 0 ⟨O,λl hl h=>O⟩ rfl ?_
 rintro i ⟨hi,f⟩;conv=>whnf
 apply aD<;>intro C;all_goals conv=>whnf
 ·have F:i < m.args.length:=by omega
  have G:i < n.args.length:=by omega
  have A:=E.get F;have B:=L.get G;obtain⟨ZH,o1,Wq,W,p,q,a3⟩:=A;obtain⟨b2',o2,Nt,X,f1,f2,f3⟩:=B;subst q f2;have Y:=aM p (i:=0) rfl;have r2:=aM f1 (i:=0) rfl;repeat' ((first|refine ay ?_|refine aP W ?_|refine aP X ?_|refine ld Y ?_|refine ld r2 ?_)<;>conv=>whnf)
  apply aU<;>intro d;all_goals conv=>whnf
  ·refine⟨bS (λa=>d ?_),rfl⟩;simp[a.2]
  refine av ?_;conv=>whnf
  refine cT (i+1) ⟨O,λj b H=>?_⟩ O rfl;rcases Nat.lt_succ_iff_lt_or_eq.1 H with D|rfl
  ·exact f j b D
  exact d
 refine⟨dx ⟨c,?_⟩,rfl⟩;exact List.ext_getElem I (λj b _=>f j b O)
def nj (u:aS) (m:cu):Prop:=eW u.aq.length m/\wv u m/\kT u m
theorem Bh (T K:List Value) (u:aS) (m:cu) (h:Heap) (J:cZ h T u) (I:dO h K m) (ok:cn u.aq) :
  Pure prog 47 [.agg ⟨T⟩,.agg ⟨K⟩] h (tf (nj u m)):=by
 have z:=J;have x:=I;obtain⟨L,E,R,F,rfl,hcs,kS,ko,hl2⟩:=J.form;obtain⟨M,A,N,B,P,C,Q,D,rfl,h1,h2,h3,h4,h5,h6,h7,h8,b1,b2,b3,b4⟩:=I.form;have d:¬nj u m->.bool false=tf (nj u m):=λa=>(cS a).symm;refine fD aB func47 YX U rfl ?_;conv=>whnf
 refine ax (Fj _ _ u m h z x) ?_;conv=>whnf
 apply aU<;>intro o;all_goals conv=>whnf
 ·exact⟨d (λa=>o a.1),rfl⟩
 refine ax (de _ _ _ _) ?_;conv=>whnf
 apply aU<;>intro g2;all_goals conv=>whnf
 ·exact⟨d (λa=>by have:=a.2.1.1;have:=a.2.1.2.1;omega),rfl⟩
 apply aU<;>intro g3;all_goals conv=>whnf
 ·exact⟨d (λa=>by have:=a.2.1.2.2.1;omega),rfl⟩
 apply aD<;>intro g4;all_goals conv=>whnf
 ·exact⟨d (λa=>by have:=a.2.2.1;omega),rfl⟩
 have vT:0<=m.locals:=by have:=o.2.2.2.2.2;omega
 refine eu [2,3,5] [2,3] (λi:Nat=>i<=m.code.length/\∀ j (b:j < m.code.length) (H:j < m.aT.length),j < i->ej u m m.code[j]/\rR u.aq.length m.locals m.aT[j]) (λi=>m.code.length-i)
  (λi=>([.l 2 0,.l 3 0,.v (.int .i64 i)],
   [some [.slice L u.aq.length E,.slice R u.methods.length F],some [.int .i64 m.cls,.int .i64 m.er,.slice M m.args.length A,.int .i64 m.out,.int .i64 m.locals,.slice N m.code.length B,.slice P m.aT.length C,.slice Q m.catches.length D]],h)) 0 ⟨O,λl hl _ h=>O⟩ rfl ?_
 rintro i ⟨hi,e⟩;conv=>whnf
 apply aD<;>intro g5;all_goals conv=>whnf
 ·have v:i < m.code.length:=by omega
  have Nu:i < m.aT.length:=by omega
  have p:=h6.get v;obtain⟨V,off,vs,y,q,s,G,W,X⟩:=p;subst s;have Y:=h7.get Nu;obtain⟨Qt,DA,Fl,Iy,f1,l,k,f2,f3,f4⟩:=Y;subst f2;obtain⟨p5,c5,rfl,_,_⟩:=f3.len;obtain⟨p6,c6,rfl,_,_⟩:=f4.len;refine ay ?_;conv=>whnf
  refine aP y ?_;conv=>whnf
  refine dh q ?_;conv=>whnf
  refine aO (tH _ _ u m _ h z x ok ⟨W,X⟩ vT) ?_;conv=>whnf
  apply aU<;>intro f;all_goals conv=>whnf
  ·exact⟨d (λa=>f (a.2.1.2.2.2.1 _ (List.getElem_mem _))),rfl⟩
  refine ay ?_;conv=>whnf
  refine aP Iy ?_;conv=>whnf
  refine dh f1 ?_;conv=>whnf
  refine aO (Bd _ _ _ _ _ _ _ _ h hcs f3 f4) ?_;conv=>whnf
  apply aU<;>intro c;all_goals conv=>whnf
  ·exact⟨d (λa=>c ⟨ok,a.2.1.2.2.2.2 _ (List.getElem_mem _)⟩),rfl⟩
  refine av ?_;conv=>whnf
  refine cT (i+1) ⟨O,λj b H w=>?_⟩ O rfl;rcases Nat.lt_succ_iff_lt_or_eq.1 w with t|rfl
  ·exact e j b H t
  exact⟨f,c.2⟩
 have hA:∀ ab∈m.code,ej u m ab:=by
  intro S g;obtain⟨j,b,rfl⟩:=List.mem_iff_getElem.1 g;exact(e j b O O).1
 have hB:∀ aa∈m.aT,rR u.aq.length m.locals aa:=by
  intro S g;obtain⟨j,b,rfl⟩:=List.mem_iff_getElem.1 g;exact(e j O b O).2
 have hC:wv u m:=⟨O,O,O,hA,hB⟩
 refine eu [2,3,6] [2,3] (λi:Nat=>i<=m.catches.length/\∀ j (b:j < m.catches.length),j < i->rS u m m.catches[j]) (λi=>m.catches.length-i)
  (λi=>([.l 2 0,.l 3 0,.v (.int .i64 i)],
   [some [.slice L u.aq.length E,.slice R u.methods.length F],some [.int .i64 m.cls,.int .i64 m.er,.slice M m.args.length A,.int .i64 m.out,.int .i64 m.locals,.slice N m.code.length B,.slice P m.aT.length C,.slice Q m.catches.length D]],h)) 0 ⟨O,λl hl h=>O⟩ rfl ?_
 rintro i ⟨hi,e⟩;conv=>whnf
 apply aD<;>intro f;all_goals conv=>whnf
 ·have v:i < m.catches.length:=by omega
  have p:=h8.get v;obtain⟨V,off,vs,y,q,s,G⟩:=p;subst s;refine ay ?_;conv=>whnf
  refine aP y ?_;conv=>whnf
  refine dh q ?_;conv=>whnf
  refine aO (DF _ _ u m _ h z x ok G) ?_;conv=>whnf
  apply aU<;>intro c;all_goals conv=>whnf
  ·exact⟨d (λa=>c (a.2.2.2 _ (List.getElem_mem _))),rfl⟩
  refine av ?_;conv=>whnf
  refine cT (i+1) ⟨O,λj b w=>?_⟩ O rfl;rcases Nat.lt_succ_iff_lt_or_eq.1 w with t|rfl
  ·exact e j b t
  exact c
 refine⟨dx ⟨o,hC,O,?_⟩,rfl⟩;intro S g;obtain⟨j,b,rfl⟩:=List.mem_iff_getElem.1 g;exact e j b O
theorem qm {cs:List dH} (ok:cn cs) {a:Int} (h0:0<=a) (b:a < cs.length):up cs a a=true:=by
 rw[fR ok h0 b];simp
theorem DG (L:List Value) (u:aS) (h:Heap) (hu:cZ h L u) (ok:cn u.aq) (F:∀ m∈u.methods,-1<=m.cls/\m.cls < u.aq.length) :
  Pure prog 48 [.agg ⟨L⟩] h (tf (mj u)):=by
 obtain⟨J,C,K,D,rfl,S,I,ko,hl2⟩:=hu.form;have no:¬mj u->.bool false=tf (mj u):=λb=>(cS b).symm;refine fD aB func48 YY U rfl ?_;conv=>whnf
 refine eu [1,3] [1] (λi:Nat=>i<=u.methods.length/\∀ e j (T:e < u.methods.length) (d:j < u.methods.length),e < i->e≠j->ni u u.methods[e] u.methods[j]) (λi=>u.methods.length-i)
  (λi=>([.l 1 0,.v (.int .i64 i)],[some [.slice J u.aq.length C,.slice K u.methods.length D]],h)) 0 ⟨O,λ_ _ _ _ b=>O⟩ rfl ?_
 rintro i ⟨T,G⟩;conv=>whnf
 apply aD<;>intro Q;all_goals conv=>whnf
 ·have w:i < u.methods.length:=by omega
  have g:=I.get w;obtain⟨bb,off,vs,Y,M,E⟩:=g;have HU:=F _ (List.getElem_mem w);have N:=E;obtain⟨p1,c1,p2,c2,p3,c3,p4,c4,P,h1,h2,h3,h4,h5,h6,h7,h8,b1,b2,b3,b4⟩:=E.form;subst P;refine eu [1,3,4] [1] (λj:Nat=>j<=u.methods.length/\∀ c (d:c < u.methods.length),c < j->i≠c->ni u u.methods[i] u.methods[c]) (λj=>u.methods.length-j)
   (λj=>([.l 1 0,.v (.int .i64 i),.v (.int .i64 j)],
    [some [.slice J u.aq.length C,.slice K u.methods.length D]],h)) 0 ⟨O,λ_ _ b=>O⟩ rfl ?_
  rintro j ⟨d,H⟩;conv=>whnf
  apply aD<;>intro R;all_goals conv=>whnf
  ·have v:j < u.methods.length:=by omega
   have g:=I.get v;obtain⟨Qt,DA,Fl,Iy,f1,f2⟩:=g;have ZL:=F _ (List.getElem_mem v);have f20:=f2;obtain⟨S5,Oy,S6,Oz,S7,LO,S8,S9,f3,y,z,A,B,k5,k6,k7,k8,d1,d2,d3,d4⟩:=f2.form;subst f3;have bad:i≠j->¬ni u u.methods[i] u.methods[j]->Value.bool false=tf (mj u):=λa b=>no (λx=>b (x i j w v a));have q:(i≠j->ni u u.methods[i] u.methods[j])->∀ c (d:c < u.methods.length),c < j+1->i≠c->ni u u.methods[i] u.methods[c]:=by
    intro b c W X a;rcases Nat.lt_succ_iff_lt_or_eq.1 X with s|rfl
    ·exact H c W s a
    exact b a
   refine ay ?_;conv=>whnf
   refine aP Y ?_;conv=>whnf
   refine dh M ?_;conv=>whnf
   refine ay ?_;conv=>whnf
   refine aP Iy ?_;conv=>whnf
   refine dh f1 ?_;conv=>whnf
   by_cases OA:(i:Int)=j\/u.methods[i].cls < 0\/u.methods[j].cls < 0\/u.methods[i].er≠u.methods[j].er
   ·repeat' ((first|refine bZ ?_|refine bD ?_|refine cU ?_|refine cy ?_|apply aD<;>intro _|apply aU<;>intro _|apply dM<;>intro _|apply cq<;>intro _|refine ay ?_|refine av ?_|refine ptr ?_)<;>conv=>whnf)
    all_goals first
     | (exfalso;omega)
     | (refine cT (j+1) ⟨O,q (λa y z A=>O)⟩ O rfl)
   repeat' ((first|refine bZ ?_|refine bD ?_|refine cU ?_|refine cy ?_|apply aD<;>intro _|apply aU<;>intro _|apply dM<;>intro _|apply cq<;>intro _|refine ay ?_|refine av ?_|refine ptr ?_)<;>conv=>whnf)
   refine ax (pE _ _ _ _ _ _ _ S ok O O O) ?_;conv=>whnf
   apply dM<;>intro f;all_goals conv=>whnf
   ·apply aD<;>intro o;all_goals conv=>whnf
    ·exact⟨bad O (λb=>(b O O O).1 o),rfl⟩
    refine ax (Fo _ _ _ _ h N f20) ?_;conv=>whnf
    apply aU<;>intro p;all_goals conv=>whnf
    ·exact⟨bad O (λb=>p ((b O O O).2 f)),rfl⟩
    refine av ?_;conv=>whnf
    refine cT (j+1) ⟨O,q (λa y z A=>⟨o,λ_=>p⟩)⟩ O rfl
   refine av ?_;conv=>whnf
   refine cT (j+1) ⟨O,q (λa y z A=>⟨λx=>?_,λB=>by rw[f]at B;cases B⟩)⟩ O rfl;rw[x,qm ok O O]at f;cases f
  refine av ?_;conv=>whnf
  refine cT (i+1) ⟨O,λe j t d V a=>?_⟩ O rfl;rcases Nat.lt_succ_iff_lt_or_eq.1 V with s|rfl
  ·exact G e j t d s a
  exact H j d O a
 exact⟨dx (λe j t d a=>G e j t d O a),rfl⟩
def cC (u:aS):Prop:=cn u.aq/\(1<=u.methods.length/\u.methods.length<=4)/\((aY u 0).cls = -1/\(aY u 0).args=[]/\(aY u 0).out=1)/\(∀ m∈u.methods,nj u m)/\mj u
theorem nj.cls {u:aS} {m:cu} (a:nj u m) : -1<=m.cls/\m.cls < u.aq.length:=by
 have:=a.1.1;omega
theorem rU (z:List Value) (u:aS) (h:Heap) (x:cZ h z u):Pure prog 22 [.agg ⟨z⟩] h (tf (cC u)):=by
 have y:=x;obtain⟨R,A,S,B,rfl,K,w,ko,hl2⟩:=x.form;have b:¬cC u->.bool false=tf (cC u):=λa=>(cS a).symm;refine fD aB func22 YC U rfl ?_;conv=>whnf
 refine ax (mg _ _ _ _ h K) ?_;conv=>whnf
 apply aU<;>intro ok;all_goals conv=>whnf
 ·exact⟨b (λa=>ok a.1),rfl⟩
 refine ax (de _ _ _ _) ?_;conv=>whnf
 apply aU<;>intro G;all_goals conv=>whnf
 ·exact⟨b (λa=>by have:=a.2.1;omega),rfl⟩
 have s:0 < u.methods.length:=by omega
 have d:aY u 0=u.methods[0]:=fm s rfl;have C:=w.get s;obtain⟨Y,off,vs,p,e,D⟩:=C;obtain⟨p1,c1,p2,c2,p3,c3,p4,c4,E,h1,h2,h3,h4,h5,h6,h7,h8,T,V,W,X⟩:=D.form;subst E;refine ay ?_;conv=>whnf
 refine aP p ?_;conv=>whnf
 refine ld (aM e (i:=0) rfl) ?_;conv=>whnf
 apply aU<;>intro f;all_goals conv=>whnf
 ·exact⟨b (λa=>f (by rw[<-d];exact a.2.2.1.1)),rfl⟩
 refine ay ?_;conv=>whnf
 refine aP p ?_;conv=>whnf
 refine ld (aM e (i:=2) rfl) ?_;conv=>whnf
 apply aD<;>intro g;all_goals conv=>whnf
 ·exact⟨b (λa=>by have:=a.2.2.1.2.1;rw[d]at this;rw[this]at g;simp at g),rfl⟩
 refine ay ?_;conv=>whnf
 refine aP p ?_;conv=>whnf
 refine ld (aM e (i:=3) rfl) ?_;conv=>whnf
 apply aU<;>intro m;all_goals conv=>whnf
 ·exact⟨b (λa=>m (by rw[<-d];exact a.2.2.1.2.2)),rfl⟩
 refine eu [1,3] [1] (λi:Nat=>i<=u.methods.length/\∀ j (c:j < u.methods.length),j < i->nj u u.methods[j]) (λi=>u.methods.length-i)
  (λi=>([.l 1 0,.v (.int .i64 i)],[some [.slice R u.aq.length A,.slice S u.methods.length B]],h)) 0 ⟨O,λ_ _ a=>O⟩ rfl ?_
 rintro i ⟨hi,v⟩;conv=>whnf
 apply aD<;>intro H;all_goals conv=>whnf
 ·have L:i < u.methods.length:=by omega
  have F:=w.get L;obtain⟨Qt,DA,Fl,P,f1,f2⟩:=F;have f20:=f2;obtain⟨S5,Oy,S6,Oz,S7,LO,S8,S9,f3,_⟩:=f2.form;subst f3;refine ay ?_;conv=>whnf
  refine aP P ?_;conv=>whnf
  refine dh f1 ?_;conv=>whnf
  refine aO (Bh _ _ u _ h y f20 ok) ?_;conv=>whnf
  apply aU<;>intro o;all_goals conv=>whnf
  ·exact⟨b (λa=>o (a.2.2.2.1 _ (List.getElem_mem _))),rfl⟩
  refine av ?_;conv=>whnf
  refine cT (i+1) ⟨O,λj c M=>?_⟩ O rfl;rcases Nat.lt_succ_iff_lt_or_eq.1 M with I|rfl
  ·exact v j c I
  exact o
 have t:∀ q∈u.methods,nj u q:=by
  intro aa Q;obtain⟨j,c,rfl⟩:=List.mem_iff_getElem.1 Q;exact v j c O
 refine ax (DG _ u h y ok (λq N=>(t q N).cls)) ?_;conv=>whnf
 have J:u.methods[0].args=[]:=List.eq_nil_of_length_eq_zero O;exact⟨eM ⟨λa=>a.2.2.2.2,λa=>⟨ok,O,by rw[d];exact⟨f,J,m⟩,t,a⟩⟩,rfl⟩
theorem Fp (E:List Value) (u:aS) (h:Heap) (D:cZ h E u):Pure prog 29 [.agg ⟨E⟩] h (tf (cC u)):=by
 have oT:=D;obtain⟨aa,F,x,m,rfl,S,C,ko,hl2⟩:=D.form;have b:¬cC u->.bool false=tf (cC u):=λa=>(cS a).symm;refine Il aB func29 YJ U rfl ?_;conv=>whnf
 refine ax (zd _ _ _ _ h S) ?_;conv=>whnf
 apply aU<;>intro ok;all_goals conv=>whnf
 ·exact⟨b (λa=>ok a.1),Heap.le_refl h⟩
 apply aD<;>intro L;all_goals conv=>whnf
 ·exact⟨b (λa=>by have:=a.2.1;omega),Heap.le_refl h⟩
 apply aD<;>intro M;all_goals conv=>whnf
 ·exact⟨b (λa=>by have:=a.2.1;omega),Heap.le_refl h⟩
 have y:0 < u.methods.length:=by omega
 have f:aY u 0=u.methods[0]:=fm y rfl;have G:=C.get y;obtain⟨bb,off,vs,Y,H,I⟩:=G;obtain⟨p1,c1,p2,c2,p3,c3,p4,c4,J,h1,h2,h3,h4,h5,h6,h7,h8,b1,b2,b3,b4⟩:=I.form;subst J;refine ay ?_;conv=>whnf
 refine aP Y ?_;conv=>whnf
 refine dh H ?_;conv=>whnf
 apply aU<;>intro o;all_goals conv=>whnf
 ·exact⟨b (λa=>o (by rw[<-f];exact a.2.2.1.1)),Heap.le_refl h⟩
 apply aU<;>intro p;all_goals conv=>whnf
 ·exact⟨b (λa=>by have:=a.2.2.1.2.1;rw[f]at this;rw[this]at p;simp at p),Heap.le_refl h⟩
 apply aU<;>intro q;all_goals conv=>whnf
 ·exact⟨b (λa=>q (by rw[<-f];exact a.2.2.1.2.2)),Heap.le_refl h⟩
 refine aG (Iw h) ?_;rintro ad h' ⟨c,rfl,R,rfl⟩;conv=>whnf
 have hle:h.le (h.set c (mV ir)):=Heap.aR (Heap.le_refl h) R;have A:(h.set c (mV ir)) c=some (mV ir):=by simp[Heap.set]
 generalize h.set c (mV ir)=d at hle A ⊢;have g:=oT.le hle;have X:Row 8 dO d (.slice x u.methods.length m) u.methods:=C.le hle (λ_ _ a=>a.le hle);refine eu [1,4,43,44,45] [1] (λi:Nat=>i<=u.methods.length/\∀ j (e:j < u.methods.length),j < i->nj u u.methods[j]) (λi=>u.methods.length-i)
  (λi=>([.l 1 0,.v (.map (some c)),.v (.slice x u.methods.length m),.v (.int .i64 u.methods.length),.v (.int .i64 i)],[some [.slice aa u.aq.length F,.slice x u.methods.length m]],d)) 0 ⟨O,λ_ _ a=>O⟩ rfl ?_
 rintro i ⟨hi,B⟩;conv=>whnf
 apply aD<;>intro N;all_goals conv=>whnf
 ·have T:i < u.methods.length:=by omega
  have K:=X.get T;obtain⟨Qt,DA,Fl,Iy,f1,f2⟩:=K;have f20:=f2;obtain⟨S5,Oy,S6,Oz,S7,LO,S8,S9,f3,_⟩:=f2.form;subst f3;refine ay ?_;conv=>whnf
  refine aP Iy ?_;conv=>whnf
  refine dh f1 ?_;conv=>whnf
  refine ax (Fi _ _ u _ d g f20) ?_;conv=>whnf
  apply aU<;>intro s;all_goals conv=>whnf
  ·exact⟨b (λa=>s (a.2.2.2.1 _ (List.getElem_mem _)).1),hle⟩
  refine ax (Fk _ _ u _ c d g f20 ok A) ?_;conv=>whnf
  apply aU<;>intro t;all_goals conv=>whnf
  ·exact⟨b (λa=>t (a.2.2.2.1 _ (List.getElem_mem _)).2.1),hle⟩
  refine ax (zj _ _ u _ d g f20 ok) ?_;conv=>whnf
  apply aU<;>intro v;all_goals conv=>whnf
  ·exact⟨b (λa=>v (a.2.2.2.1 _ (List.getElem_mem _)).2.2),hle⟩
  refine av ?_;conv=>whnf
  refine cT (i+1) ⟨O,λj e V=>?_⟩ O rfl;rcases Nat.lt_succ_iff_lt_or_eq.1 V with P|rfl
  ·exact B j e P
  exact⟨s,t,v⟩
 have z:∀ w∈u.methods,nj u w:=by
  intro ab ht;obtain⟨j,e,rfl⟩:=List.mem_iff_getElem.1 ht;exact B j e O
 refine ax (Ix _ u d g ok (λw W=>(z w W).cls)) ?_;conv=>whnf
 have Q:u.methods[0].args=[]:=List.eq_nil_of_length_eq_zero O;exact⟨eM ⟨λa=>a.2.2.2.2,λa=>⟨ok,O,by rw[f];exact⟨o,Q,q⟩,z,a⟩⟩,hle⟩
def gI (c s:Int):List cu->Int->Int
 | [],_=>-1
 | m::r,i=>if m.cls=c/\m.er=s then i else gI c s r (i+1)
def kU (u:aS) (s:Int):Nat->Int->Int
 | 0,_=>-1
 | k+1,c=>if 0<=c then (if 0<=gI c s u.methods 0 then gI c s u.methods 0 else kU u s k (bC u.aq c))else -1
def find (u:aS) (c s:Int):Int:=kU u s (c.toNat+1) c
theorem kV {u:aS} {s:Int} (k:Nat) {c:Int} (h:c < 0):kU u s k c = -1:=by
 cases k with
 | zero=>rfl
 | succ k=>rw[kU,if_neg O]
theorem kW {u:aS} {c s:Int} (h:c < 0):find u c s = -1:=kV _ h
theorem rV {u:aS} (ok:cn u.aq) (s:Int):∀(k:Nat) (c:Int),c < u.aq.length->c.toNat < k->kU u s k c=find u c s
 | 0,c,_,h=>by omega
 | k+1,c,hl,h=>by
  by_cases a:0<=c
  ·have d:=ok.bO a hl;unfold find;rw[kU,kU];simp only[a,if_true];split
   ·rfl
   by_cases b:0<=bC u.aq c
   ·rw[rV ok s k _ O O];rw[<-rV ok s c.toNat _ O O]
   rw[kV _ O,kV _ O]
  rw[kV _ O,kW O]
theorem qn {u:aS} {c s:Int} (h0:0<=c) (h:0<=gI c s u.methods 0):find u c s=gI c s u.methods 0:=by
 unfold find;rw[kU];simp[h0,h]
theorem tI {u:aS} (ok:cn u.aq) {c s:Int} (h0:0<=c) (a:c < u.aq.length) (h:gI c s u.methods 0 < 0):find u c s=find u (bC u.aq c) s:=by
 have d:=ok.bO h0 a;conv=>lhs;unfold find
 rw[kU];simp only[h0,if_true,show ¬0<=gI c s u.methods 0 by omega,if_false];by_cases b:0<=bC u.aq c
 ·exact rV ok s _ _ O O
 rw[kV _ O,kW O]
theorem rW {c s:Int}:∀(l:List cu) (i:Nat) (k:Int),(∀ j (b:j < l.length),j < i->¬(l[j].cls=c/\l[j].er=s))->gI c s l k=gI c s (l.drop i) (k+i)
 | l,0,k,_=>by simp
 | [],i+1,k,_=>by simp[gI]
 | m::r,i+1,k,h=>by
  have a:=h 0 Z O;simp only[List.getElem_cons_zero]at a;rw[gI,if_neg a];rw[rW r i (k+1) (λj b d=>by have:=h (j+1) (by simpa using b) O;simpa using this)];simp only[List.drop_succ_cons];congr 1
  omega
theorem CH {c s:Int} {l:List cu} {i:Nat} (a:i < l.length) (b:∀ j (d:j < l.length),j < i->¬(l[j].cls=c/\l[j].er=s)) (h:l[i].cls=c/\l[i].er=s):gI c s l 0=i:=by
 rw[rW l i 0 b,List.drop_eq_getElem_cons a,gI,if_pos h];omega
theorem wz {c s:Int} {l:List cu} (b:∀ j (a:j < l.length),¬(l[j].cls=c/\l[j].er=s)):gI c s l 0 = -1:=by
 rw[rW l l.length 0 (λj a _=>b j a)];simp[gI]
theorem uw (C:List Value) (u:aS) (c s:Int) (h:Heap) (R:cZ h C u) (ok:cn u.aq) (h0 : -1<=c) (L:c < u.aq.length) :
  Pure prog 173 [.agg ⟨C⟩,.int .i64 c,.int .i64 s] h (.int .i64 (find u c s)):=by
 obtain⟨B,v,q,e,rfl,J,M,ko,hl2⟩:=R.form;refine fD aB func173 SB U rfl ?_;conv=>whnf
 refine eu [2,3,7] [3] (λx:Int=>-1<=x/\x < u.aq.length/\find u x s=find u c s) (λx=>(x+1).toNat)
  (λx=>([.v (.int .i64 s),.l 3 0,.v (.int .i64 x)],[some [.slice B u.aq.length v,.slice q u.methods.length e]],h)) c ⟨h0,L,rfl⟩ rfl ?_
 rintro x ⟨x0,D,t⟩;conv=>whnf
 apply aD<;>intro d;all_goals conv=>whnf
 ·refine eu [2,3,7,20,21,22] [3] (λi:Nat=>i<=u.methods.length/\∀ j (b:j < u.methods.length),j < i->¬(u.methods[j].cls=x/\u.methods[j].er=s)) (λi=>u.methods.length-i)
   (λi=>([.v (.int .i64 s),.l 3 0,.v (.int .i64 x),.v (.slice q u.methods.length e),.v (.int .i64 u.methods.length),.v (.int .i64 i)],[some [.slice B u.aq.length v,.slice q u.methods.length e]],h)) 0 ⟨O,λ_ _ a=>O⟩ rfl ?_
  rintro i ⟨hi,p⟩;conv=>whnf
  apply aD<;>intro H;all_goals conv=>whnf
  ·have y:i < u.methods.length:=by omega
   have f:=M.get y;obtain⟨E,S,vs,P,F,g⟩:=f;obtain⟨p1,T,p2,V,p3,W,p4,X,G,_⟩:=g.form;subst G;have w:¬(u.methods[i].cls=x/\u.methods[i].er=s)->∀ j (b:j < u.methods.length),j < i+1->¬(u.methods[j].cls=x/\u.methods[j].er=s):=by
    intro a j b K;rcases Nat.lt_succ_iff_lt_or_eq.1 K with I|rfl
    ·exact p j b I
    exact a
   refine ay ?_;conv=>whnf
   refine aP P ?_;conv=>whnf
   refine dh F ?_;conv=>whnf
   apply aD<;>intro m;all_goals conv=>whnf
   ·apply aD<;>intro o;all_goals conv=>whnf
    ·have z:=CH y p ⟨m,o⟩;exact⟨by rw[<-t,qn d O,z],rfl⟩
    refine av ?_;conv=>whnf
    refine cT (i+1) ⟨O,w (λa=>o a.2)⟩ O rfl
   refine av ?_;conv=>whnf
   refine cT (i+1) ⟨O,w (λa=>m a.1)⟩ O rfl
  have z:gI x s u.methods 0 = -1:=wz (λj b=>p j b O);have A:x.toNat < u.aq.length:=by omega
  have f:=J.at A;obtain⟨E,S,q',k',Y,N,_,g,_,_,_,_⟩:=f;have hs:=ok.bO d D;have Q:bC u.aq x=u.aq[x.toNat].bO:=by simp[bC,A]
  refine ay ?_;conv=>whnf
  refine aP N ?_;conv=>whnf
  refine ld g ?_;conv=>whnf
  refine cT (u.aq[x.toNat].bO) ⟨O,O,?_⟩ O rfl;rw[<-t,tI ok d D O,Q]
 exact⟨by rw[<-t,kW O],rfl⟩
theorem qp (E:List Value) (u:aS) (c s:Int) (h:Heap) (S:cZ h E u) (ok:cn u.aq) (h0 : -1<=c) (N:c < u.aq.length) :
  Pure prog 142 [.agg ⟨E⟩,.int .i64 c,.int .i64 s] h (.int .i64 (find u c s)):=by
 obtain⟨C,q,D,t,rfl,L,P,ko,hl2⟩:=S.form;refine fD aB func142 R8 U rfl ?_;conv=>whnf
 refine eu [1,2,3] [3] (λx:Int=>-1<=x/\x < u.aq.length/\find u x s=find u c s) (λx=>(x+1).toNat)
  (λx=>([.v (.int .i64 x),.v (.int .i64 s),.l 3 0],[some [.slice C u.aq.length q,.slice D u.methods.length t]],h)) c ⟨h0,N,rfl⟩ rfl ?_
 rintro x ⟨x0,F,p⟩;conv=>whnf
 apply aD<;>intro I;all_goals conv=>whnf
 ·refine eu [1,2,3,7] [3] (λi:Nat=>i<=u.methods.length/\∀ j (d:j < u.methods.length),j < i->¬(u.methods[j].cls=x/\u.methods[j].er=s)) (λi=>u.methods.length-i)
   (λi=>([.v (.int .i64 x),.v (.int .i64 s),.l 3 0,.v (.int .i64 i)],[some [.slice C u.aq.length q,.slice D u.methods.length t]],h)) 0 ⟨O,λ_ _ b=>O⟩ rfl ?_
  rintro i ⟨hi,o⟩;conv=>whnf
  apply aD<;>intro J;all_goals conv=>whnf
  ·have y:i < u.methods.length:=by omega
   have e:=P.get y;obtain⟨G,T,vs,A,v,f⟩:=e;obtain⟨p1,X,p2,Y,p3,c3,p4,c4,H,_⟩:=f.form;subst H;have w:¬(u.methods[i].cls=x/\u.methods[i].er=s)->∀ j (d:j < u.methods.length),j < i+1->¬(u.methods[j].cls=x/\u.methods[j].er=s):=by
    intro b j d M;rcases Nat.lt_succ_iff_lt_or_eq.1 M with K|rfl
    ·exact o j d K
    exact b
   have V:=aM v (i:=0) rfl;have W:=aM v (i:=1) rfl;refine ay ?_;conv=>whnf
   refine aP A ?_;conv=>whnf
   refine ld V ?_;conv=>whnf
   apply aD<;>intro g;all_goals conv=>whnf
   ·refine ay ?_;conv=>whnf
    refine aP A ?_;conv=>whnf
    refine ld W ?_;conv=>whnf
    apply aD<;>intro m;all_goals conv=>whnf
    ·have z:=CH y o ⟨g,m⟩;exact⟨by rw[<-p,qn O O,z],rfl⟩
    refine av ?_;conv=>whnf
    refine cT (i+1) ⟨O,w (λb=>m b.2)⟩ O rfl
   refine av ?_;conv=>whnf
   refine cT (i+1) ⟨O,w (λb=>g b.1)⟩ O rfl
  have z:gI x s u.methods 0 = -1:=wz (λj d=>o j d O);have B:x.toNat < u.aq.length:=by omega
  have e:=L.at B;obtain⟨G,T,q',k',d',Q,_,f,_,_,_,_⟩:=e;have hs:=ok.bO (a:=x) O F;have R:bC u.aq x=u.aq[x.toNat].bO:=by simp[bC,B]
  refine ay ?_;conv=>whnf
  refine aP Q ?_;conv=>whnf
  refine ld f ?_;conv=>whnf
  refine cT (u.aq[x.toNat].bO) ⟨O,O,?_⟩ O rfl;rw[<-p,tI ok (c:=x) O F O,R]
 exact⟨by rw[<-p,kW O],rfl⟩
def oq (u:aS) (x:dc):Int:=if x.kind=20 then x.a else if x.kind=21 then find u x.a x.b else -1
theorem Bj (e:List Value) (u:aS) (x:dc) (h:Heap) (c:cZ h e u) (ok:cn u.aq) (d:x.kind=21->-1<=x.a/\x.a < u.aq.length) :
  Pure prog 191 [.agg ⟨e⟩,.agg #[.int .i64 x.kind,.int .i64 x.a,.int .i64 x.b]] h (.int .i64 (oq u x)):=by
 have f:=c;obtain⟨q,g,s,i,rfl,j,p,m,o⟩:=c.form;refine fD aB func191 SQ U rfl ?_;conv=>whnf
 apply aD<;>intro b;all_goals conv=>whnf
 ·exact⟨by simp[oq,b],rfl⟩
 apply aD<;>intro a;all_goals conv=>whnf
 ·refine ax (uw _ u _ _ h f ok (d a).1 (d a).2) ?_;conv=>whnf
  exact⟨by simp[oq,a],rfl⟩
 exact⟨by simp[oq,b,a],rfl⟩
theorem ux (a:Int) (h:Heap):Pure prog 178 [.int .i64 a] h (.int .i64 (if a=0 then 1 else 8)):=by
 refine fD aB func178 SG U rfl ?_;conv=>whnf
 repeat' ((first|apply aD<;>intro _|apply aU<;>intro _|apply dM<;>intro _|apply cq<;>intro _|refine ay ?_|refine av ?_|refine ptr ?_)<;>conv=>whnf)
 all_goals exact⟨by simp[*],rfl⟩
theorem mm (a:Int) (h:Heap):Pure prog 176 [.int .i64 a] h (.int .i64 (if a=0 then -1 else -2)):=by
 refine fD aB func176 SE U rfl ?_;conv=>whnf
 repeat' ((first|apply aD<;>intro _|apply aU<;>intro _|apply dM<;>intro _|apply cq<;>intro _|refine ay ?_|refine av ?_|refine ptr ?_)<;>conv=>whnf)
 all_goals exact⟨by simp[*],rfl⟩
theorem zk (a:Int) (h:Heap):Pure prog 193 [.int .i64 a] h (.agg #[.bool (!decide (a=1)),.int .i64 0]):=by
 refine fD aB func193 SS U rfl ?_;conv=>whnf
 repeat' ((first|apply aD<;>intro _|apply aU<;>intro _|apply dM<;>intro _|apply cq<;>intro _|refine ay ?_|refine av ?_|refine ptr ?_)<;>conv=>whnf)
 all_goals exact⟨rfl,rfl⟩
theorem Fq (c:kg) (n:Int) (h:Heap):Pure prog 97 [.agg #[.int .i64 c.lo,.int .i64 c.hi,.int .i64 c.to,.int .i64 c.cls],.int .i64 n] h (.bool (decide (c.lo<=n/\n < c.hi))):=by
 refine fD aB func97 ZF U rfl ?_;conv=>whnf
 repeat' ((first|apply aD<;>intro _|apply aU<;>intro _|apply dM<;>intro _|apply cq<;>intro _|refine ay ?_|refine av ?_|refine ptr ?_)<;>conv=>whnf)
 all_goals exact⟨by simp;omega,rfl⟩
theorem qt (a n b:Int) (h:Heap):Pure prog 62 [.int .i64 a,.int .i64 n,.int .i64 b] h (.bool (decide (a<=n/\n<=b))):=by
 refine fD aB func62 Zc U rfl ?_;conv=>whnf
 repeat' ((first|apply aD<;>intro _|apply aU<;>intro _|apply dM<;>intro _|apply cq<;>intro _|refine ay ?_|refine av ?_|refine ptr ?_)<;>conv=>whnf)
 all_goals exact⟨by simp;omega,rfl⟩
def typeOf (c:Int):Int:=if c = -1 then 3 else if c = -2 then 4 else 8+c
theorem DH (c:Int) (h:Heap) (a : -2<=c/\c<=1000):Pure prog 197 [.int .i64 c] h (.int .i64 (typeOf c)):=by
 refine fD aB func197 SX U rfl ?_;conv=>whnf
 repeat' ((first|apply aD<;>intro _|apply aU<;>intro _|apply dM<;>intro _|apply cq<;>intro _|refine ay ?_|refine av ?_|refine ptr ?_)<;>conv=>whnf)
 all_goals exact⟨by simp[typeOf, *],rfl⟩
def gU (cs:List dH) (a b:Int):Bool :=
 if a=b\/b=0 then true else if a=2 then decide (2<=b)else if a < 2\/b < 8 then false else if a < 8 then decide (b=8)else up cs (a-8) (b-8)
theorem qu (a:Int) (h:Heap):Pure prog 154 [.int .i64 a] h (.bool (decide (2<=a))):=by
 refine fD aB func154 Si U rfl ?_;conv=>whnf
 exact⟨rfl,rfl⟩
theorem rZ (p:Option Addr) (n c:Nat) (cs:List dH) (a b:Int) (h:Heap) (i:eD h (.slice p n c) cs) (ok:cn cs) (o:a < 8+cs.length) (q:b < 8+cs.length) :
  Pure prog 157 [.slice p n c,.int .i64 a,.int .i64 b] h (.bool (gU cs a b)):=by
 have t:=i.n;have s:=ok.2.1;refine fD aB func157 Sl U rfl ?_;conv=>whnf
 apply aD<;>intro f;all_goals conv=>whnf
 ·exact⟨by simp[gU,f],rfl⟩
 apply aD<;>intro g;all_goals conv=>whnf
 ·exact⟨by simp[gU,g],rfl⟩
 apply aD<;>intro d;all_goals conv=>whnf
 ·refine ax (qu _ _) ?_;conv=>whnf
  exact⟨by unfold gU;rw[if_neg O,if_pos d],rfl⟩
 refine ax (qu _ _) ?_;conv=>whnf
 apply aU<;>intro j;all_goals conv=>whnf
 ·exact⟨by unfold gU;rw[if_neg O,if_neg d,if_pos O],rfl⟩
 apply aD<;>intro m;all_goals conv=>whnf
 ·exact⟨by unfold gU;rw[if_neg O,if_neg d,if_pos O],rfl⟩
 apply aD<;>intro e;all_goals conv=>whnf
 ·exact⟨by unfold gU;rw[if_neg O,if_neg d,if_neg O,if_pos e],rfl⟩
 refine av ?_;conv=>whnf
 refine av ?_;conv=>whnf
 refine ax (pE _ _ _ _ _ _ _ i ok O O O) ?_;conv=>whnf
 exact⟨by unfold gU;rw[if_neg O,if_neg d,if_neg O,if_neg e],rfl⟩
theorem xL (c d:Int) (w:World):(Go.binOp .eql 175 (.iface 182 (.agg #[.int .i64 c])) (.iface 182 (.agg #[.int .i64 d]))).run prog w=.ok (.bool (c==d)) w :=
 by
 refine E2 c d (λw=>rfl) (λw=>rfl) rfl rfl ?_ ?_ rfl ?_ w
 ·kernel_rfl
 ·decide
 intro x w;rfl
theorem xM (c d:Bool) (w:World):(Go.binOp .eql 175 (.iface 180 (.agg #[.bool c])) (.iface 180 (.agg #[.bool d]))).run prog w=.ok (.bool (c==d)) w:=by
 refine Dy c d (λw=>rfl) (λw=>rfl) rfl rfl ?_ ?_ rfl ?_ w
 ·kernel_rfl
 ·decide
 intro x w;rfl
theorem Ft (p:Option Addr) (n c:Nat) (cs:List dH) (a b:Int) (h:Heap) (f:eD h (.slice p n c) cs) (ok:cn cs)
  (d:a=0\/a=1\/a=2\/a=3\/a=4\/(8<=a/\a < 8+cs.length)) (e:b=0\/b=1\/b=2\/b=3\/b=4\/(8<=b/\b < 8+cs.length)) :
  Pure prog 196 [.slice p n c,dY cs.length a,dY cs.length b] h (.bool (gU cs a b)):=by
 have x:=f.n;have v:=ok.2.1;have g:8<=a/\a < 8+cs.length->dY cs.length a=.iface 182 (.agg #[.int .i64 (a-8)]):=by intro j;simp only[dY];(repeat' split)<;>first|rfl|(exfalso;omega)
 have i:8<=b/\b < 8+cs.length->dY cs.length b=.iface 182 (.agg #[.int .i64 (b-8)]):=by intro j;simp only[dY];(repeat' split)<;>first|rfl|(exfalso;omega)
 have o:∀ m:Nat,dY m 0=.iface 208 (.agg #[]):=λm=>by simp[dY]
 have q:∀ m:Nat,dY m 1=.iface 178 (.agg #[]):=λm=>by simp[dY]
 have s:∀ m:Nat,dY m 2=.iface 209 (.agg #[]):=λm=>by simp[dY]
 have t:∀ m:Nat,dY m 3=.iface 180 (.agg #[.bool false]):=λm=>by simp[dY]
 have u:∀ m:Nat,dY m 4=.iface 180 (.agg #[.bool true]):=λm=>by simp[dY]
 rcases d with rfl|rfl|rfl|rfl|rfl|d<;>rcases e with rfl|rfl|rfl|rfl|rfl|e
 all_goals (try simp only[o,q,s,t,u])
 all_goals (try rw[g (by assumption)])
 all_goals (try rw[i (by assumption)])
 all_goals
  refine fD aB func196 SW U rfl ?_;conv=>whnf
  repeat' ((first
   | apply aD<;>intro _
   | apply dM<;>intro _
   | refine fI (r:=.bool true) rfl rfl (λw=>rfl) (λw=>rfl) ?_
   | refine fI (r:=.bool false) rfl rfl (λw=>rfl) (λw=>rfl) ?_
   | refine fI rfl rfl (λw=>rfl) (xL _ _) ?_
   | refine fI rfl rfl (λw=>rfl) (xM _ _) ?_
   | refine ey rfl (λw=>rfl) ?_
   | refine ax (og _ _ _ _ _ _ _ f ok O O) ?_)<;>conv=>whnf)
  all_goals first
   | exact⟨rfl,rfl⟩
   | (refine⟨?_,rfl⟩;congr 1;unfold gU;(repeat' split)<;>first|rfl|(exfalso;omega)|(rw[Bool.eq_iff_iff];simp;omega))
def Bm (n:Nat) (a:Int):Prop:=a=0\/a=1\/a=2\/a=3\/a=4\/(8<=a/\a < 8+n)
theorem Fu (p:Option Addr) (n c:Nat) (cs:List dH) (a b:Int) (h:Heap) (m:eD h (.slice p n c) cs) (ok:cn cs) (d:Bm cs.length a) (e:Bm cs.length b) :
  Pure prog 182 [.slice p n c,.int .i64 a,.int .i64 b] h (.bool (gU cs a b)):=by
 have s:=m.n;subst s;have y:=ok.2.1;have j:cH a/\cH b:=by
  unfold Bm at d e;refine⟨⟨?_,?_⟩,⟨?_,?_⟩⟩<;>omega
 have u:∃ t v,dY cs.length a=.iface t v:=by
  rcases d with rfl|rfl|rfl|rfl|rfl|d;all_goals first|exact⟨_,_,rfl⟩|exact⟨182,.agg #[.int .i64 (a-8)],by simp only[dY];(repeat' split)<;>first|rfl|(exfalso;omega)⟩
 have x:∃ t v,dY cs.length b=.iface t v:=by
  rcases e with rfl|rfl|rfl|rfl|rfl|e;all_goals first|exact⟨_,_,rfl⟩|exact⟨182,.agg #[.int .i64 (b-8)],by simp only[dY];(repeat' split)<;>first|rfl|(exfalso;omega)⟩
 obtain⟨z,B,o⟩:=u;obtain⟨A,C,q⟩:=x;have g:=qj cs.length a h O j.1;have i:=qj cs.length b h O j.2;have f:=Ft p cs.length c cs a b h m ok d e;rw[o]at g f;rw[q]at i f;refine fD aB func182 SJ U rfl ?_;conv=>whnf
 refine ax g ?_;conv=>whnf
 refine ax i ?_;conv=>whnf
 refine fI (r:=.bool true) rfl rfl (λw=>rfl) (λw=>rfl) ?_;conv=>whnf
 refine fI (r:=.bool true) rfl rfl (λw=>rfl) (λw=>rfl) ?_;conv=>whnf
 refine ax f ?_;conv=>whnf
 exact⟨rfl,rfl⟩
def bM (x:Vl):List Value:=[.bool x.ref,.int .i64 x.n]
abbrev bR (h:Heap) (v:Value) (l:List Vl) (B:List Nat):Prop:=bW 2 h v (l.map bM) B
def jt (h:Heap) (x:List Value) (o:Ob) (B:List Nat):Prop:=∃ v,x=[.int .i64 o.cls,v]/\bR h v o.bp B
def mo (h:Heap) (x:List Value) (f:bL) (B:List Nat):Prop:=∃ c d a b,x=[.int .i64 f.aC,.int .i64 f.pc,c,d]/\bR h c f.locals a/\bR h d f.stack b/\B=a++b
inductive Rows {α:Type} (R:Heap->List Value->α->List Nat->Prop) (h:Heap):List (List Value)->List α->List Nat->Prop where
 | nil:Rows R h [] [] []
 | cons {x:List Value} {a:α} {B1:List Nat} {xs:List (List Value)} {l:List α} {B2:List Nat} (h1:R h x a B1) (h2:Rows R h xs l B2):Rows R h (x::xs) (a::l) (B1++B2)
def dR {d:Type} (R:Heap->List Value->d->List Nat->Prop) (sz:Nat) (h:Heap) (v:Value) (l:List d) (B:List Nat):Prop:=∃ c a b,bW sz h v c a/\Rows R h c l b/\B=a++b
def eX (h:Heap) (mc:List Value) (m:bH) (B:List Nat):Prop:=∃ e d f a b c,mc=[e,d,f,.int .i64 m.steps,.int .i64 m.fin,.bool m.out.ref,.int .i64 m.out.n] /\
 dR jt 2 h e m.objs a/\dR mo 4 h d m.au b/\dI h f m.said c/\B=a++b++c
def cD (h h':Heap) (B:List Nat):Prop:=∀ b∈B,∀ o,h b=some o->h' b=some o
theorem cD.of_le {h h':Heap} (a:h.le h') (B:List Nat):cD h h' B:=λb _ o c=>a b o c
theorem cD.sub {h h':Heap} {A B:List Nat} (c:cD h h' B) (d:∀ b∈A,b∈B):cD h h' A:=λb a=>c b (d b a)
theorem cD.l {h h':Heap} {A B:List Nat} (b:cD h h' (A++B)):cD h h' A:=b.sub λc a=>List.mem_append.2 (.inl a)
theorem cD.r {h h':Heap} {A B:List Nat} (b:cD h h' (A++B)):cD h h' B:=b.sub λc a=>List.mem_append.2 (.inr a)
theorem bW.aJ {sz:Nat} {h h':Heap} {v:Value} {xs:List (List Value)} {B:List Nat} (j:cD h h' B) (m:bW sz h v xs B):bW sz h' v xs B:=by
 obtain⟨g,i⟩:=m;refine⟨g,i.imp id ?_⟩;rintro⟨b,c,rest,t,a,d,e,f,rfl⟩;exact⟨b,c,rest,t,a,d,j b Z _ e,f,rfl⟩
theorem jt.aJ {h h':Heap} {x:List Value} {o:Ob} {B:List Nat} (c:cD h h' B) (d:jt h x o B):jt h' x o B:=by
 obtain⟨v,a,b⟩:=d;exact⟨v,a,b.aJ c⟩
theorem mo.aJ {h h':Heap} {x:List Value} {f:bL} {B:List Nat} (a:cD h h' B) (i:mo h x f B):mo h' x f B:=by
 obtain⟨j,m,b,c,d,e,g,rfl⟩:=i;exact⟨j,m,b,c,d,e.aJ a.l,g.aJ a.r,rfl⟩
def Kept {c:Type} (R:Heap->List Value->c->List Nat->Prop):Prop:=∀(h b:Heap) (x:List Value) (a:c) (B:List Nat),cD h b B->R h x a B->R b x a B
theorem Rows.aJ {b:Type} {R:Heap->List Value->b->List Nat->Prop} (d:Kept R) {h h':Heap} {xs:List (List Value)} {l:List b} {B:List Nat} (e:Rows R h xs l B):cD h h' B->Rows R h' xs l B:=by
 induction e with
 | nil=>exact λ_=>.nil
 | cons c _ f=>exact λa=>.cons (d _ _ _ _ _ a.l c) (f a.r)
theorem dR.aJ {b:Type} {R:Heap->List Value->b->List Nat->Prop} (g:Kept R) {sz:Nat} {h h':Heap} {v:Value} {l:List b} {B:List Nat} (a:cD h h' B) (i:dR R sz h v l B):dR R sz h' v l B:=by
 obtain⟨j,c,d,e,f,rfl⟩:=i;exact⟨j,c,d,e.aJ a.l,f.aJ g a.r,rfl⟩
theorem gP:Kept jt:=λ_ _ _ _ _=>jt.aJ
theorem jL:Kept mo:=λ_ _ _ _ _=>mo.aJ
theorem eX.aJ {h h':Heap} {mc:List Value} {m:bH} {B:List Nat} (a:cD h h' B) (j:eX h mc m B):eX h' mc m B:=by
 obtain⟨p,o,q,b,c,d,e,f,g,i,rfl⟩:=j;exact⟨p,o,q,b,c,d,e,f.aJ gP a.l.l,g.aJ jL a.l.r,i.aJ a.r,rfl⟩
theorem Rows.len {a:Type} {R:Heap->List Value->a->List Nat->Prop} {h:Heap} {xs:List (List Value)} {l:List a} {B:List Nat} (b:Rows R h xs l B):xs.length=l.length:=by
 induction b with
 | nil=>rfl
 | cons _ _ c=>simp[c]
theorem Rows.app {a:Type} {R:Heap->List Value->a->List Nat->Prop} {h:Heap} {xs ys:List (List Value)} {l k:List a} {A B:List Nat} (c:Rows R h xs l A) (d:Rows R h ys k B):Rows R h (xs++ys) (l++k) (A++B):=by
 induction c with
 | nil=>exact d
 | cons b _ e=>simp only[List.cons_append,List.append_assoc];exact .cons b e
theorem Rows.one {b:Type} {R:Heap->List Value->b->List Nat->Prop} {h:Heap} {x:List Value} {a:b} {B:List Nat} (c:R h x a B):Rows R h [x] [a] B:=by
 have:=Rows.cons c (Rows.nil (R:=R) (h:=h));simpa using this
theorem Rows.split {c:Type} {R:Heap->List Value->c->List Nat->Prop} {h:Heap}:∀ {l k:List c} {xs:List (List Value)} {B:List Nat},Rows R h xs (l++k) B ->
  ∃ ys b A C,xs=ys++b/\B=A++C/\Rows R h ys l A/\Rows R h b k C
 | [],k,xs,B,hr=>⟨[],xs,[],B,rfl,rfl,.nil,hr⟩
 | a::l,k,xs,B,hr=>by
  cases hr with
  | cons d e =>
   obtain⟨ys,b,A,C,rfl,rfl,f,g⟩:=Rows.split e;exact⟨_::ys,b,_,C,rfl,Z,.cons d f,g⟩
theorem Rows.single {b:Type} {R:Heap->List Value->b->List Nat->Prop} {h:Heap} {xs:List (List Value)} {a:b} {B:List Nat} (e:Rows R h xs [a] B):∃ x,xs=[x]/\R h x a B:=by
 cases e with
 | cons c d=>cases d;exact⟨_,rfl,by simpa using c⟩
theorem bW.in {sz:Nat} {h:Heap} {v:Value} {xs:List (List Value)} {B:List Nat} (c:bW sz h v xs B):∀ b∈B,∃ o,h b=some o:=by
 obtain⟨_,⟨_,_,rfl⟩|⟨b,d,rest,t,_,_,a,_,rfl⟩⟩:=c
 ·simp
 simp[a]
def Iz {a:Type} (R:Heap->List Value->a->List Nat->Prop):Prop:=∀(h:Heap) (x:List Value) (b:a) (B:List Nat),R h x b B->∀ c∈B,∃ o,h c=some o
theorem Rows.in {a:Type} {R:Heap->List Value->a->List Nat->Prop} (d:Iz R) {h:Heap} {xs:List (List Value)} {l:List a} {B:List Nat} (f:Rows R h xs l B):∀ b∈B,∃ o,h b=some o:=by
 induction f with
 | nil=>simp
 | cons c _ g=>exact λb e=>(List.mem_append.1 e).elim (d _ _ _ _ c b) (g b)
theorem jt.in {h:Heap} {x:List Value} {o:Ob} {B:List Nat} (c:jt h x o B):∀ b∈B,∃ o,h b=some o:=by
 obtain⟨v,_,a⟩:=c;exact a.in
theorem mo.in {h:Heap} {x:List Value} {f:bL} {B:List Nat} (e:mo h x f B):∀ b∈B,∃ o,h b=some o:=by
 obtain⟨j,m,g,i,_,a,c,rfl⟩:=e;exact λb d=>(List.mem_append.1 d).elim (a.in b) (c.in b)
theorem vH:Iz jt:=λ_ _ _ _=>jt.in
theorem Nv:Iz mo:=λ_ _ _ _=>mo.in
theorem dR.in {a:Type} {R:Heap->List Value->a->List Nat->Prop} (e:Iz R) {sz:Nat} {h:Heap} {v:Value} {l:List a} {B:List Nat} (g:dR R sz h v l B):∀ b∈B,∃ o,h b=some o:=by
 obtain⟨m,i,j,c,d,rfl⟩:=g;exact λb f=>(List.mem_append.1 f).elim (c.in b) (d.in e b)
theorem eX.in {h:Heap} {mc:List Value} {m:bH} {B:List Nat} (f:eX h mc m B):∀ b∈B,∃ o,h b=some o:=by
 obtain⟨q,p,s,g,i,j,_,c,d,e,rfl⟩:=f;intro b a;rcases List.mem_append.1 a with a|a
 ·rcases List.mem_append.1 a with a|a
  ·exact c.in vH b a
  exact d.in Nv b a
 exact e.in b a
structure Ev (h h':Heap) (S S':List Nat):Prop where
 qv:∀ b,h b≠none->b ∉ S->h' b=h b
 new:∀ b∈S',b∈S\/h b=none
theorem Ev.refl (h:Heap) (S:List Nat):Ev h h S S:=⟨λ_ _ _=>rfl,λ_ a=>.inl a⟩
theorem Ev.trans {h j o:Heap} {S g i:List Nat} (a:Ev h j S g) (b:Ev j o g i):Ev h o S i where
 qv c hc e:=by
  have m:=a.qv c hc e;rw[b.qv c (by rw[m];exact hc) (λd=>(a.new c d).elim e hc),m]
 new c hc:=by
  rcases b.new c hc with d|d
  ·exact a.new c d
  by_cases e:c∈S
  ·exact .inl e
  by_cases f:h c=none
  ·exact .inr f
  rw[a.qv c f e]at d;exact absurd d f
theorem Ev.le {h0 h h':Heap} {S d:List Nat} (e:Ev h h' S d) (f:h0.le h) (i:∀ b∈S,h0 b=none):h0.le h':=by
 intro b o a;have c:=f b o a;rw[e.qv b (by rw[c];simp) (λg=>by rw[i b g]at a;cases a)];exact c
theorem Ev.fresh {h0 h h':Heap} {S c:List Nat} (d:Ev h h' S c) (g:h0.le h) (i:∀ b∈S,h0 b=none):∀ b∈c,h0 b=none:=by
 intro b e;rcases d.new b e with a|a
 ·exact i b a
 cases f:h0 b with
 | none=>rfl
 | some o=>rw[g b o f]at a;cases a
theorem Ev.aJ {h h':Heap} {S c A:List Nat} (d:Ev h h' S c) (f:∀ b∈A,b ∉ S):cD h h' A:=λb e o a=>by rw[d.qv b (by rw[a];simp) (f b e)];exact a
theorem Ev.of_le {h h':Heap} {S:List Nat} (d:h.le h') (a:List Nat) (e:∀ b∈a,b∈S\/h b=none):Ev h h' S a where
 qv b hb _:=by
  cases c:h b with
  | none=>exact absurd c hb
  | some o=>exact d b o c
 new:=e
theorem Ev.more {h h':Heap} {S d:List Nat} (e:Ev h h' S d) (A:List Nat):Ev h h' (A++S) (A++d) where
 qv b a hs:=e.qv b a (λc=>hs (List.mem_append.2 (.inr c)))
 new b a:=by
  rcases List.mem_append.1 a with a|a
  ·exact .inl (List.mem_append.2 (.inl a))
  exact(e.new b a).imp (λc=>List.mem_append.2 (.inr c)) id
theorem bF {h:Heap} {b:Nat} {cs:List Value} {t:TypeId} {fz:Nat × Nat} (a:h b=some (.cells cs.toArray t fz)) {i:Nat} {v:Value} (c:cs[i]? = some v):rd h b i=some v:=by
 simp[rd,a,c]
theorem CI {pre x post:List Value} {i:Nat} {v:Value} (a:x[i]? = some v):(pre++x++post)[pre.length+i]? = some v:=by
 have b:i < x.length:=(List.getElem?_eq_some_iff.1 a).1;rw[List.append_assoc,List.getElem?_append_right O,Nat.add_sub_cancel_left,List.getElem?_append_left b];exact a
theorem bA {h:Heap} {b:Nat} {pre x post:List Value} {t:TypeId} {fz:Nat × Nat} (a:h b=some (.cells (pre++x++post).toArray t fz)) {i n:Nat} {v:Value} (c:n=pre.length+i) (d:x[i]? = some v):rd h b n=some v:=by
 subst c;exact bF a (CI d)
theorem gW {pre x post:List Value} {i n:Nat} {v:Value} (b:n=pre.length+i) (a:i < x.length):dU (pre++x++post) n [v]=pre++x.set i v++post:=by
 subst b;simp only[dU,rL];rw[List.append_assoc,List.set_append,if_neg O,Nat.add_sub_cancel_left,List.set_append,if_pos a,List.append_assoc]
def Nd (l:List Nat):Prop:=∀ a,l.count a<=1
theorem Nd.perm {l k:List Nat} (h:Nd l) (b:∀ a,k.count a=l.count a):Nd k:=λa=>by rw[b a];exact h a
theorem Nd.less {l k:List Nat} (h:Nd l) (b:∀ a,k.count a<=l.count a):Nd k:=λa=>Nat.le_trans (b a) (h a)
theorem Nd.swap {A X X':List Nat} (h:Nd (A++X)) (g:Nd X') (f:∀ b∈X',b∈X\/b ∉ A):Nd (A++X'):=by
 intro a;have e:=h a;have i:=g a;simp only[List.count_append]at e ⊢;by_cases d:a∈X'
 ·have:A.count a=0:=by
   rcases f a d with c|c
   ·have:=List.count_pos_iff.2 c;omega
   exact List.count_eq_zero.2 c
  omega
 have:=List.count_eq_zero.2 d;omega
theorem bW.nd {sz:Nat} {h:Heap} {v:Value} {xs:List (List Value)} {B:List Nat} (b:bW sz h v xs B):Nd B:=by
 obtain⟨_,⟨_,_,rfl⟩|⟨c,d,rest,t,_,_,_,_,rfl⟩⟩:=b
 ·intro a;simp
 intro a;simp only[List.count_cons,List.count_nil];split<;>omega
theorem fS {l k:List Nat} (c:∀ a,k.count a=l.count a) (b:Nat):b∈k↔b∈l:=by
 rw[<-List.count_pos_iff,<-List.count_pos_iff,c b]
theorem dR.at {q:Type} {R:Heap->List Value->q->List Nat->Prop} (w:Kept R) {sz:Nat} {h:Heap} {v:Value} {g i:List q} {a:q} {B:List Nat} (Q:dR R sz h v (g++a::i) B) :
  ∃ b c x pre post t j Bi,v=.slice (some ⟨b,0,none⟩) (g.length+i.length+1) c/\g.length+i.length+1<=c/\h b=some (.cells (pre++x++post).toArray t (0,0))/\pre.length=g.length*sz/\x.length=sz/\R h x a Bi /\
   (∀ n,B.count n=(b::j++Bi).count n) /\
   ∀ h' x' m e,h' b=some (.cells (pre++x'++post).toArray t (0,0))->x'.length=sz->R h' x' m e->cD h h' j->∃ B',dR R sz h' v (g++m::i) B'/\∀ n,B'.count n=(b::j++e).count n:=by
 obtain⟨W,T,V,⟨f,M⟩,G,rfl⟩:=Q;obtain⟨F,p,A,C,rfl,rfl,s,H⟩:=Rows.split G;cases H with
 | @cons x _ Bi p _ C I u =>
 have o:=s.len;have E:=u.len;rcases M with ⟨_,P,_⟩|⟨b,c,rest,t,rfl,z,K,N,rfl⟩
 ·simp at P
 refine⟨b,c,x,F.flatten,p.flatten++rest,t,A++C,Bi,?_,?_,?_,?_,f x Z,I,?_,?_⟩
 ·simp[o,E];omega
 ·simp[o,E]at z;omega
 ·rw[K];simp
 ·rw[bQ (sz:=sz) (λy d=>f y (by simp[d])),o]
 ·intro n;simp[List.count_append,List.count_cons];omega
 intro h' x' m e L S J D;refine⟨[b]++(A++(e++C)),⟨F++x'::p,[b],A++(e++C),⟨?_,.inr ⟨b,c,rest,t,Z,by simpa using z,by rw[L];simp,?_,rfl⟩⟩,(s.aJ w D.l).app (.cons J (u.aJ w D.r)),rfl⟩,?_⟩
 ·intro y d;simp only[List.mem_append,List.mem_cons]at d;rcases d with d|rfl|d
  ·exact f y (by simp[d])
  ·exact S
  exact f y (by simp[d])
 ·have:=f x Z;simp only[List.flatten_append,List.flatten_cons,List.length_append]at N ⊢;omega
 intro n;simp[List.count_append,List.count_cons];omega
theorem dR.pop {e:Type} {R:Heap->List Value->e->List Nat->Prop} {sz:Nat} {h:Heap} {p:Option Addr} {n c:Nat} {l:List e} {a:e} {B:List Nat} (u:dR R sz h (.slice p n c) (l++[a]) B) :
  n=l.length+1/\∃ B',dR R sz h (.slice p l.length c) l B'/\∀ n,B'.count n<=B.count n:=by
 obtain⟨J,D,E,⟨v,o⟩,i,rfl⟩:=u;obtain⟨C,K,A,F,rfl,rfl,f,j⟩:=Rows.split i;obtain⟨y,rfl,H⟩:=j.single;have d:=f.len;rcases o with ⟨_,t,_⟩|⟨b,G,rest,x,g,q,m,s,rfl⟩
 ·simp at t
 simp only[Value.slice.injEq]at g;obtain⟨rfl,rfl,rfl⟩:=g;refine⟨by simp[d],[b]++A,⟨C,[b],A,⟨λz w=>v z (by simp[w]),.inr ⟨b,c,y++rest,x,by simp[d],by simp[d]at q ⊢;omega,by rw[m];simp,by simpa using s,rfl⟩⟩,f,rfl⟩,λI=>?_⟩;simp[List.count_append,List.count_cons]
theorem bW.at {sz:Nat} {h:Heap} {v:Value} {xs ys:List (List Value)} {x:List Value} {B:List Nat} (o:bW sz h v (xs++x::ys) B) :
  ∃ b c pre post t,v=.slice (some ⟨b,0,none⟩) (xs.length+ys.length+1) c/\h b=some (.cells (pre++x++post).toArray t (0,0))/\pre.length=xs.length*sz/\x.length=sz/\B=[b] /\
   ∀ h' x',h' b=some (.cells (pre++x'++post).toArray t (0,0))->x'.length=sz->bW sz h' v (xs++x'::ys) B:=by
 obtain⟨d,g⟩:=o;rcases g with ⟨_,m,_⟩|⟨b,c,rest,t,rfl,i,e,j,rfl⟩
 ·simp at m
 refine⟨b,c,xs.flatten,ys.flatten++rest,t,by simp[Nat.add_assoc],by rw[e];simp,bQ (sz:=sz) (λy a=>d y (by simp[a])),d x Z,rfl,?_⟩;intro h' x' f p;refine⟨?_,.inr ⟨b,c,rest,t,Z,by simpa using i,by rw[f];simp,?_,rfl⟩⟩
 ·intro y a;simp only[List.mem_append,List.mem_cons]at a;rcases a with a|rfl|a
  ·exact d y (by simp[a])
  ·exact p
  exact d y (by simp[a])
 have:=d x Z;simp only[List.flatten_append,List.flatten_cons,List.length_append]at j ⊢;omega
structure fo (h0 h:Heap) (bm:Nat) (pre post:List Value) (M:bH) (B:List Nat):Prop where
 le:h0.le h
 cell:∃ mc t,h bm=some (.cells (pre++mc++post).toArray t (0,0))/\eX h mc M B
 nd:Nd (bm::B)
 fr:∀ b∈bm::B,h0 b=none
def aE (b a vs:Value) (M:bH):List Value:=[b,a,vs,.int .i64 M.steps,.int .i64 M.fin,.bool M.out.ref,.int .i64 M.out.n]
theorem fo.top {h0 h:Heap} {bm:Nat} {pre post:List Value} {M:bH} {B:List Nat} {fs:List bL} {f:bL} (S:fo h0 h bm pre post M B) (J:M.au=fs++[f]) :
  ∃ u vs d c x t q r y A a B1 j,h bm=some (.cells (pre++aE u (.slice (some ⟨d,0,none⟩) (fs.length+1) c) vs M++post).toArray x (0,0)) /\
   h d=some (.cells (q++[.int .i64 f.aC,.int .i64 f.pc,y,A]++r).toArray t (0,0))/\q.length=fs.length*4/\bR h y f.locals B1/\bR h A f.stack j /\
   Nd (bm::d::(a++B1++j))/\(∀ b∈bm::d::(a++B1++j),∃ o,h b=some o)/\(∀ b,b∈bm::B↔b∈bm::d::(a++B1++j)) /\
   ∀ h' f' z C i p,h' bm=h bm->h' d=some (.cells (q++[.int .i64 f'.aC,.int .i64 f'.pc,z,C]++r).toArray t (0,0))->bR h' z f'.locals i->bR h' C f'.stack p->cD h h' a ->
    Nd (bm::d::(a++i++p))->Ev h h' (bm::B) (bm::d::(a++i++p))->∃ B',fo h0 h' bm pre post {M with au:=fs++[f']} B'/\Ev h h' (bm::B) (bm::B'):=by
 obtain⟨hle,⟨mc,x,E,u,vf,vs,a,v,e,rfl,K,F,N,rfl⟩,nd,I⟩:=S;rw[J]at F;obtain⟨d,c,aa,q,r,t,Bx,Bi,rfl,_,T,X,_,⟨y,A,B1,j,rfl,Q,R,rfl⟩,V,ju⟩:=F.at jL;have W:∀ b∈bm::(a++v++e),∃ o,h b=some o:=by
  intro b s;rcases List.mem_cons.1 s with rfl|s
  ·exact⟨_,E⟩
  refine eX.in (h:=h) (mc:=aE u _ vs M) (m:=M) ⟨u,_,vs,a,v,e,rfl,K,by rw[J];exact F,N,rfl⟩ b s
 have G:∀ g,(bm::d::((a++Bx++e)++B1++j)).count g=(bm::(a++v++e)).count g:=by
  intro g;have:=V g;simp only[List.count_append,List.count_cons]at this ⊢;omega
 refine⟨u,vs,d,c,x,t,q,r,y,A,a++Bx++e,B1,j,by simpa [aE]using E,T,X,Q,R,nd.perm G,λb s=>W b ((fS G b).1 s),λb=>(fS G b).symm,?_⟩;intro h' f' z C i p Y k2 k3 k4 H k6 P;obtain⟨w,o1,o2⟩:=ju h' _ f' (i++p) k2 rfl ⟨z,C,i,p,rfl,k3,k4,rfl⟩ H.l.r;have L:∀ g,(bm::(a++w++e)).count g=(bm::d::((a++Bx++e)++i++p)).count g:=by
  intro g;have:=o2 g;simp only[List.count_append,List.count_cons]at this ⊢;omega
 have D:Ev h h' (bm::(a++v++e)) (bm::(a++w++e)):=⟨P.qv,λb s=>P.new b ((fS L b).1 s)⟩
 refine⟨a++w++e,⟨D.le hle I,⟨_,x,by rw[Y,E],u,_,vs,a,w,e,rfl,K.aJ gP H.l.l,o1,N.aJ H.r,rfl⟩,k6.perm L,D.fresh hle I⟩,D⟩
def gY (k:Int):List PanicEntry:=[{v:=.iface 83 (.agg #[.int .i64 k]),recovered:=false}]
def Qu (a off bm:Nat) (b c:List Value):List Value:=.pointer (some ⟨a,off,none⟩)::(b++c++[.pointer (some ⟨bm,0,none⟩)])
def Pn (h0:Heap) (bm:Nat) (h:Heap):Prop:=h0.le h/\∃(a:List Value) (t:TypeId),h bm=some (.cells a.toArray t (0,0))/\a.length=7
theorem fo.Fv {h0 h h':Heap} {bm:Nat} {M:bH} {B:List Nat} (b:fo h0 h bm [] [] M B) (a:h.le h'):Pn h0 bm h':=by
 obtain⟨le,⟨g,t,c,j,i,m,d,e,f,rfl,_⟩,_,_⟩:=b;exact⟨Heap.le_trans le a,_,t,a _ _ c,rfl⟩
theorem fo.pn {h0 h:Heap} {bm:Nat} {M:bH} {B:List Nat} (a:fo h0 h bm [] [] M B):Pn h0 bm h:=a.Fv (Heap.le_refl h)
structure iQ (h0 h:Heap) (bs bm bf off:Nat) (u:aS) (m:cu) (fs:List bL) (f:bL) (M:bH) (B:List Nat):Prop where
 ma:fo h0 h bm [] [] M B
 au:M.au=fs++[f]
 top:off=fs.length*4/\∃ c,rd h bm 1=some (.slice (some ⟨bf,0,none⟩) (fs.length+1) c)
 st:∃ ms us t,h bs=some (.cells (Qu bf off bm ms us).toArray t (0,0))/\cZ h0 us u/\dO h0 ms m
 out:bs ∉ bm::B
theorem iQ.lens {h0 h:Heap} {p bm c off:Nat} {u:aS} {m:cu} {fs:List bL} {f:bL} {M:bH} {B:List Nat} (hS:iQ h0 h p bm c off u m fs f M B) :
  ∃ t q r E G B1 e,h c=some (.cells (q++[.int .i64 f.aC,.int .i64 f.pc,E,G]++r).toArray t (0,0))/\q.length=off/\bR h E f.locals B1/\bR h G f.stack e/\Nd (B1++e)/\(∀ b∈c::(B1++e),h0 b=none) /\
   (∀ b,b∈B1++e->b≠c/\b≠bm/\b≠p)/\c≠bm/\c≠p /\
   ∀ h' f' F H j o,h' c=some (.cells (q++[.int .i64 f'.aC,.int .i64 f'.pc,F,H]++r).toArray t (0,0))->(∀ b,b ∉ c::(B1++e)->h b≠none->h' b=h b)->bR h' F f'.locals j->bR h' H f'.stack o ->
    (∀ b∈j++o,b∈B1++e\/h b=none)->Nd (j++o)->∃ B',iQ h0 h' p bm c off u m fs f' {M with au:=fs++[f']} B'/\Ev h h' (bm::B) (bm::B'):=by
 obtain⟨L,hf,⟨R,c0,S⟩,⟨ms,us,ts,K,hu,hm⟩,C⟩:=hS;obtain⟨vo,vs,Y,aa,tm,t,q,r,E,G,s,B1,e,N,IA,hq,o1,o2,nd,mW,w,ju⟩:=L.top hf;have I:rd h bm 1=some (.slice (some ⟨Y,0,none⟩) (fs.length+1) aa):=bA N (i:=1) Z rfl;rw[S]at I;simp only[Option.some.injEq,Value.slice.injEq,Addr.mk.injEq,and_true,true_and]at I;obtain⟨rfl,rfl⟩:=I;have J:∀ z,(bm::c::(s++B1++e)).count z<=1:=nd;have x:∀ b,b∈B1++e->b≠c/\b≠bm/\b≠p/\b ∉ s:=by
  intro b d;have hp:=List.count_pos_iff.2 d;have v:=J b;simp only[List.count_append,List.count_cons]at hp v;refine⟨?_,?_,?_,?_⟩
  ·rintro rfl;simp at v;omega
  ·rintro rfl;simp at v;omega
  ·rintro rfl;exact C ((w _).2 (by simp at d ⊢;grind))
  intro a;have:=List.count_pos_iff.2 a;omega
 have V:c≠bm:=by
  rintro rfl;have v:=J c;simp[List.count_cons]at v
 have W:c≠p:=by
  rintro rfl;exact C ((w _).2 Z)
 have Qv:bm≠p:=by
  rintro rfl;exact C Z
 refine⟨t,q,r,E,G,B1,e,IA,by rw[hq,R],o1,o2,?_,?_,λb d=>⟨(x b d).1,(x b d).2.1,(x b d).2.2.1⟩,V,W,?_⟩
 ·exact nd.less λz=>by simp only[List.count_append,List.count_cons];omega
 ·intro b d;exact L.fr b ((w b).2 (by simp at d ⊢;grind))
 intro h' f' F H j o k1 D k3 k4 T k6;have P:h' bm=h bm:=D bm (by simp only[List.mem_cons,not_or];exact⟨λa=>V a.symm,λa=>(x _ a).2.1 rfl⟩) (by rw[N];simp);have zl:∀ b∈s,b ∉ c::(B1++e):=by
  intro b d a;rcases List.mem_cons.1 a with rfl|a
  ·have v:=J b;have:=List.count_pos_iff.2 d;simp only[List.count_append,List.count_cons]at v;simp at v;omega
  exact(x b a).2.2.2 d
 have OB:cD h h' s:=λb d ab y=>by rw[D b (zl b d) (by rw[y];simp)];exact y
 have hnd:Nd (bm::c::(s++j++o)):=by
  have:=Nd.swap (A:=bm::c::s) (X:=B1++e) (X':=j++o) (nd.perm λz=>by simp only[List.count_append,List.count_cons];omega) k6 (λb d=>?_)
  ·exact this.perm λz=>by simp only[List.count_append,List.count_cons];omega
  rcases T b d with a|a
  ·exact .inl a
  refine .inr λg=>?_;obtain⟨ab,y⟩:=mW b (by simp at g ⊢;grind);rw[a]at y;cases y
 have CJ:Ev h h' (bm::B) (bm::c::(s++j++o)):=by
  refine⟨λb d hn=>?_,λb d=>?_⟩
  ·refine D b (λa=>hn ((w b).2 (by simp at a ⊢;grind))) d
  have:b∈j++o\/b∈bm::c::s:=by simp at d ⊢;grind
  rcases this with a|a
  ·rcases T b a with g|g
   ·exact .inl ((w b).2 (by simp at g ⊢;grind))
   exact .inr g
  exact .inl ((w b).2 (by simp at a ⊢;grind))
 obtain⟨B',OC,Q⟩:=ju h' f' F H j o P k1 k3 k4 OB hnd CJ;refine⟨B',⟨OC,rfl,⟨R,c0,?_⟩,⟨ms,us,ts,?_,hu,hm⟩,?_⟩,Q⟩
 ·rw[<-S];unfold rd;rw[P]
 ·rw[D p ?_ (by rw[K];simp)];exact K;intro a;rcases List.mem_cons.1 a with a|a
  ·exact W a.symm
  exact(x _ a).2.2.1 rfl
 intro a;rcases Q.new p a with g|g
 ·exact C g
 rw[K]at g;cases g
theorem dP {a b:Type} (g:a->b) (l:List a):((l.map g).length:Int)=l.length:=by simp
theorem iQ.cA {h0 h:Heap} {j bm c off:Nat} {u:aS} {m:cu} {fs:List bL} {f:bL} {M:bH} {B:List Nat} (I:iQ h0 h j bm c off u m fs f M B) :
  ∃ t q r s A x e,h c=some (.cells (q++[.int .i64 f.aC,.int .i64 f.pc,s,.slice A (f.stack.map bM).length x]++r).toArray t (0,0))/\q.length=off/\bR h (.slice A (f.stack.map bM).length x) f.stack e/\(∀ b∈e,h0 b=none) /\
   rd h j 0=some (.pointer (some ⟨c,off,none⟩))/\rd h c (off+3)=some (.slice A (f.stack.map bM).length x) /\
   ∀ g C v w p,(∀ b,b ∉ e->h b≠none->g b=h b)->bR g C w v->(∀ b∈v,b∈e\/h b=none) ->
    g c=h c/\g j=h j/\g bm=h bm/\∃ B',iQ h0 (g.set c (.cells (q++[.int .i64 f.aC,.int .i64 p,s,C]++r).toArray t (0,0))) j bm c off u m fs {f with pc:=p,stack:=w } {M with au:=fs++[{f with pc:=p,stack:=w }]} B' /\
     Ev h (g.set c (.cells (q++[.int .i64 f.aC,.int .i64 p,s,C]++r).toArray t (0,0))) (bm::B) (bm::B'):=by
 obtain⟨t,q,r,s,v2,H,e,D,J,Q,R,nd,X,E,Wr,ne2,ju⟩:=I.lens;obtain⟨T,hf,oK,⟨ms,us,ts,K,hu,hm⟩,mX⟩:=I;obtain⟨A,x,rfl,ur⟩:=R.form;obtain⟨mc,tm,V,_⟩:=T.cell;refine⟨t,q,r,s,A,x,e,D,J,R,λb d=>X b (by simp;grind),bF K rfl,bA D (i:=3) (by rw[J]) rfl,?_⟩;intro g C v w p z L G;have N:c ∉ e:=λa=>(E c (by simp[a])).1 rfl;have n2:j ∉ e:=λa=>(E j (by simp[a])).2.2 rfl;have n3:bm ∉ e:=λa=>(E bm (by simp[a])).2.1 rfl;have W:∀ b,b∈H->b ∉ e:=by
  intro b g S;have:=nd b;have:=List.count_pos_iff.2 g;have:=List.count_pos_iff.2 S;simp only[List.count_append]at *;omega
 have nb:∀ b∈v,b≠c:=by
  intro b d;rcases G b d with a|a
  ·rintro rfl;exact N a
  rintro rfl;rw[D]at a;cases a
 refine⟨z c N (by rw[D];simp),z j n2 (by rw[K];simp),z bm n3 (by rw[V];simp),?_⟩;refine ju _ {f with pc:=p,stack:=w } s C H v ?_ ?_ ?_ ?_ ?_ ?_
 ·simp[Heap.set]
 ·intro b d Y;have F:b≠c:=λa=>d (by simp[a]);simp only[Heap.set,F,if_false];exact z b (λa=>d (by simp[a])) Y
 ·refine Q.aJ λb d P o=>?_;have F:=(E b (by simp[d])).1;simp only[Heap.set,F,if_false];rw[z b (W b d) (by rw[o];simp)];exact o
 ·refine L.aJ λb d P o=>?_;simp only[Heap.set,nb b d,if_false];exact o
 ·intro b d;rcases List.mem_append.1 d with a|a
  ·exact .inl (by simp[a])
  rcases G b a with y|y
  ·exact .inl (by simp[y])
  exact .inr y
 refine Nd.swap nd L.nd λb d=>?_;rcases G b d with a|a
 ·exact .inl a
 refine .inr λy=>?_;obtain⟨P,o⟩:=Q.in b y;rw[a]at o;cases o
theorem Bn {h:Heap} {b:Nat} {pre x post:List Value} {t:TypeId} {fz:Nat × Nat} {i n:Nat} {v:Value} (c:n=pre.length+i) (a:i < x.length) :
  h.set b (.cells (dU (pre++x++post) n [v]).toArray t fz)=h.set b (.cells (pre++x.set i v++post).toArray t fz):=by rw[gW c a]
theorem mq (h0 h:Heap) (a bm d off:Nat) (u:aS) (m:cu) (fs:List bL) (f:bL) (M:bH) (B:List Nat) (x:Vl) (g:iQ h0 h a bm d off u m fs f M B) :
  cF prog 134 [.pointer (some ⟨a,0,none⟩),.agg #[.bool x.ref,.int .i64 x.n]] h λo h'=>match o with
   | .ret _=>f.stack.length < 4/\∃ B',iQ h0 h' a bm d off u m fs {f with stack:=f.stack++[x]} {M with au:=fs++[{f with stack:=f.stack++[x]}]} B'/\Ev h h' (bm::B) (bm::B')
   | .jj c=>4<=f.stack.length/\c=gY 0/\Pn h0 bm h':=by
 obtain⟨Y,X,r,v1,W,P,N,D,F,G,E,b,s,J⟩:=g.cA;have hle:=g.ma.le;have V:=dP bM f.stack;refine outs aB func134 R5 U rfl ?_;conv=>whnf
 refine ld b ?_;conv=>whnf
 refine ld s ?_;conv=>whnf
 apply aD<;>intro y;all_goals conv=>whnf
 ·exact⟨O,rfl,g.ma.pn⟩
 repeat' ((first|exact trivial|refine ld b ?_|refine ld s ?_|apply And.intro)<;>conv=>whnf)
 all_goals
  refine cX (h0:=h0) (ys:=[bM x]) G E hle rfl rfl (by simp[bM]) rfl rfl (by simp;omega) (by simp;omega) ?_;intro v' e j R q S A C;have w:=q.form;obtain⟨H,t,rfl,T⟩:=w;have z:bR e (.slice H (f.stack.map bM++[bM x]).length t) (f.stack++[x]) j:=by unfold bR;rw[List.map_append];exact q
  obtain⟨p,v,Q,B',K,L⟩:=J e _ j (f.stack++[x]) f.pc A z C;have I:rd e a 0=some (.pointer (some ⟨d,off,none⟩)):=by unfold rd at b ⊢;rw[v];exact b
  rw[D]at p;conv=>whnf
  repeat' ((first|refine ld I ?_|refine st p (by simp;omega) ?_)<;>conv=>whnf)
  refine⟨O,?_⟩;rw[Bn (i:=3) (by rw[F]) Z];exact⟨B',K,L⟩
def jM (sz:Nat) (h:Heap) (v:Value) (xs:List (List Value)):Prop:=xs.length<=1000000/\(∀ x∈xs,x.length=sz)/\∃ p c,v=.slice p xs.length c/\xs.length<=c/\(xs=[]\/∃ b a,p=some ⟨b,a,none⟩/\dQ h b a (xs.length*sz)=some xs.flatten)
theorem jM.le {sz:Nat} {h h':Heap} {v:Value} {xs:List (List Value)} (i:h.le h') (j:jM sz h v xs):jM sz h' v xs:=by
 obtain⟨a,d,p,c,rfl,e,f⟩:=j;refine⟨a,d,p,c,rfl,e,f.imp id ?_⟩;rintro⟨b,m,rfl,g⟩;exact⟨b,m,rfl,bG i g⟩
theorem bW.read {sz:Nat} {h:Heap} {v:Value} {xs:List (List Value)} {B:List Nat} (i:bW sz h v xs B) (b:xs.length<=1000000):jM sz h v xs:=by
 obtain⟨a,⟨rfl,rfl,_⟩|⟨c,d,rest,t,rfl,f,e,j,_⟩⟩:=i
 ·exact⟨b,a,none,0,rfl,Z,.inl rfl⟩
 refine⟨b,a,_,d,rfl,f,.inr ⟨c,0,rfl,?_⟩⟩;have g:=bQ a;rw[bK e _ _ (by simp only[List.length_append];omega)];simp[<-g]
theorem jM.IB {sz:Nat} {h:Heap} {p:Option Addr} {n c:Nat} {xs:List (List Value)} {K:List Value->Prop} (f:jM sz h (.slice p n c) xs) (b:K xs.flatten):No h p (n*sz) K:=by
 obtain⟨_,_,m,j,a,_,e⟩:=f;simp only[Value.slice.injEq]at a;obtain⟨rfl,rfl,rfl⟩:=a;rw[p0];unfold AN;rcases e with rfl|⟨d,i,rfl,g⟩
 ·exact .inl ⟨.inr Z,b⟩
 exact .inr ⟨d,i,_,rfl,g,b⟩
abbrev kY (h:Heap) (v:Value) (l:List Vl):Prop:=jM 2 h v (l.map bM)
abbrev CK (h:Heap) (v:Value) (l:List Int):Prop:=jM 1 h v (l.map bP)
theorem gJ:∀ l:List Vl,dD (l.map bM).flatten=true
 | []=>rfl
 | x::l=>by simp[bM,dD,jF,gJ l]
theorem Fw (v:Value) (l:List Int) (h:Heap) (e:CK h v l) :
  bI prog 91 [v] h λv h'=>h.le h'/\∃ B,dI h' v l B/\∀ b∈B,h b=none:=by
 have p:=e;obtain⟨a,y,s,u,rfl,z,m⟩:=e;have A:=dP bP l;refine bT aB func91 ZB U rfl ?_;conv=>whnf
 refine E4 rfl rfl rfl ?_;conv=>whnf
 cases s with
 | none =>
  conv=>whnf
  have d:l.map bP=[]:=m.elim id (λ⟨_,_,q,_⟩=>by cases q);exact⟨Heap.le_refl h,[],⟨by simp[d],.inl ⟨rfl,d,rfl⟩⟩,Z⟩
 | some t =>
  conv=>whnf
  refine new (λb c=>?_);conv=>whnf
  have hle:=Heap.aR (Heap.le_refl h) c (o:=.cells #[] 3);refine(p.le hle).IB ?_;conv=>whnf
  refine cX (h0:=h) (xs:=[]) (ys:=l.map bP) (B:=[b]) ⟨Z,.inr ⟨b,0,[],3,rfl,Z,by simp[Heap.set,p7],Z,rfl⟩⟩ (by simpa using c) hle rfl rfl (by simp[bP]) (by rw[dy];exact di l) rfl (by simp;simp at a;omega) (by simp;simp at a;omega) ?_;intro C h' f g i j w x;conv=>whnf
  exact⟨g,f,by simpa using i,j⟩
theorem qx (v:Value) (l:List Vl) (h:Heap) (e:kY h v l) :
  bI prog 92 [v] h λv h'=>h.le h'/\∃ B,bR h' v l B/\∀ b∈B,h b=none:=by
 have p:=e;obtain⟨a,y,s,u,rfl,z,m⟩:=e;have A:=dP bM l;refine bT aB func92 ZC U rfl ?_;conv=>whnf
 refine E4 rfl rfl rfl ?_;conv=>whnf
 cases s with
 | none =>
  conv=>whnf
  have d:l.map bM=[]:=m.elim id (λ⟨_,_,q,_⟩=>by cases q);exact⟨Heap.le_refl h,[],⟨by simp[d],.inl ⟨rfl,d,rfl⟩⟩,Z⟩
 | some t =>
  conv=>whnf
  refine new (λb c=>?_);conv=>whnf
  have hle:=Heap.aR (Heap.le_refl h) c (o:=.cells #[] 31);refine(p.le hle).IB ?_;conv=>whnf
  refine cX (h0:=h) (xs:=[]) (ys:=l.map bM) (B:=[b]) ⟨Z,.inr ⟨b,0,[],31,rfl,Z,by simp[Heap.set,p7],Z,rfl⟩⟩ (by simpa using c) hle rfl rfl (by simp[bM]) (gJ l) rfl (by simp;simp at a;omega) (by simp;simp at a;omega) ?_;intro C h' f g i j w x;conv=>whnf
  exact⟨g,f,by simpa using i,j⟩
def Qw (h:Heap) (x:List Value) (o:Ob):Prop:=∃ v,x=[.int .i64 o.cls,v]/\kY h v o.bp
def IC (h:Heap) (x:List Value) (f:bL):Prop:=∃ a b,x=[.int .i64 f.aC,.int .i64 f.pc,a,b]/\kY h a f.locals/\kY h b f.stack
def qy (h:Heap) (mc:List Value) (M:bH):Prop:=∃ b a c,mc=aE b a c M/\M.objs.length<=1000000/\M.au.length<=1000000/\Row 2 Qw h b M.objs/\Row 4 IC h a M.au/\CK h c M.said
theorem Qw.le {h h':Heap} (c:h.le h') {x:List Value} {o:Ob} (d:Qw h x o):Qw h' x o:=by
 obtain⟨v,a,b⟩:=d;exact⟨v,a,b.le c⟩
theorem IC.le {h h':Heap} (a:h.le h') {x:List Value} {f:bL} (e:IC h x f):IC h' x f:=by
 obtain⟨g,i,b,c,d⟩:=e;exact⟨g,i,b,c.le a,d.le a⟩
theorem qy.le {h h':Heap} (a:h.le h') {mc:List Value} {M:bH} (j:qy h mc M):qy h' mc M:=by
 obtain⟨o,m,p,c,d,e,f,g,i⟩:=j;exact⟨o,m,p,c,d,e,f.le a (λ_ _ b=>b.le a),g.le a (λ_ _ b=>b.le a),i.le a⟩
def Small (M:bH):Prop:=M.objs.length<=1000000/\M.au.length<=1000000/\M.said.length<=1000000/\(∀ o∈M.objs,o.bp.length<=1000000)/\∀ f∈M.au,f.locals.length<=1000000/\f.stack.length<=1000000
theorem Rows.mem {c:Type} {R:Heap->List Value->c->List Nat->Prop} {h:Heap} {xs:List (List Value)} {l:List c} {B:List Nat} (e:Rows R h xs l B):∀ i (a:i < l.length) (b:i < xs.length),∃ C,R h xs[i] l[i] C:=by
 induction e with
 | nil=>intro i a;simp at a
 | cons d _ f =>
  intro i a b;cases i with
  | zero=>exact⟨_,d⟩
  | succ i=>simpa using f i (by simpa using a) (by simpa using b)
theorem dR.row {c:Type} {R:Heap->List Value->c->List Nat->Prop} {Q:Heap->List Value->c->Prop} {sz:Nat} {h:Heap} {v:Value} {l:List c} {B:List Nat} (A:dR R sz h v l B) (M:l.length<=1000000) (D:∀ x a C,a∈l->R h x a C->Q h x a):Row sz Q h v l:=by
 obtain⟨b,I,J,⟨q,w⟩,d,_⟩:=A;have p:=d.len;rcases w with ⟨rfl,rfl,_⟩|⟨s,t,rest,N,rfl,K,u,L,_⟩
 ·have:l=[]:=List.eq_nil_of_length_eq_zero (by simpa using p.symm);subst this;exact⟨Z,none,0,rfl,Z,.inl rfl⟩
 refine⟨O,_,t,by rw[p],O,.inr ⟨s,0,rfl,λi a y=>?_⟩⟩;obtain⟨m,j⟩:=List.getElem?_eq_some_iff.1 y;have o:i < b.length:=by omega
 obtain⟨C,f⟩:=d.mem i m o;rw[j]at f;refine⟨b[i],?_,D _ _ C (j ▸ List.getElem_mem m) f⟩;have E:b=b.take i++b[i]::b.drop (i+1):=by simp
 have F:(b.take i).flatten.length=i*sz:=by
  rw[bQ (sz:=sz) (λH G=>q H (List.mem_of_mem_take G)),List.length_take,Nat.min_eq_left O]
 have z:(b[i]).length=sz:=q _ (List.getElem_mem o);have g:b.flatten++rest=(b.take i).flatten++(b[i]++((b.drop (i+1)).flatten++rest)):=by
  have e:=congrArg List.flatten E;simp only[List.flatten_append,List.flatten_cons]at e;rw[e];simp only[List.append_assoc]
 rw[bK u _ _ (by rw[g];simp only[List.length_append];omega),g];simp only[Nat.zero_add];rw[List.drop_append_of_le_length O,<-F,List.drop_length,List.nil_append,<-z,List.take_left]
theorem eX.read {h:Heap} {mc:List Value} {M:bH} {B:List Nat} (p:eX h mc M B) (q:Small M):qy h mc M:=by
 obtain⟨y,x,z,D,E,F,rfl,i,j,m,rfl⟩:=p;obtain⟨e,f,s,t,g⟩:=q;refine⟨y,x,z,rfl,e,f,i.row e ?_,j.row f ?_,m.read (by simpa using s)⟩
 ·rintro A a C b ⟨v,c,d⟩;exact⟨v,c,d.read (by simpa using t a b)⟩
 rintro A a C b ⟨u,w,G,H,c,d,o,_⟩;exact⟨u,w,c,d.read (by simpa using (g a b).1),o.read (by simpa using (g a b).2)⟩
theorem dR.form {a:Type} {R:Heap->List Value->a->List Nat->Prop} {sz:Nat} {h:Heap} {v:Value} {l:List a} {B:List Nat} (e:dR R sz h v l B):∃ p c,v=.slice p l.length c/\l.length<=c:=by
 obtain⟨j,f,g,b,d,_⟩:=e;obtain⟨p,c,rfl,i⟩:=b.form;have:=d.len;exact⟨p,c,by rw[this],O⟩
theorem kZ {q:Type} {R:Heap->List Value->q->List Nat->Prop} (y:Kept R) (x:Iz R) {bytes sz:Nat} {zero:List Value} {F:TypeId} {h0 h:Heap} {p:Option Addr} {n cap:Nat} {l:List q} {a:q} {B Bi:List Nat} {m:Nat} {vs:List Value} {K:Value->Heap->Prop}
  (d:dR R sz h (.slice p n cap) l B) (g:R h vs a Bi) (D:Nd (B++Bi)) (w:∀ b∈B++Bi,h0 b=none) (hle:h0.le h) (W:m=1) (OD:vs.length=sz) (N:dD vs=true) (hz:zero.length=sz)
  (L:(l.length+1)*bytes<=2 ^ 44) (M:l.length+1<=2 ^ 44)
  (V:∀ i h' B',h0.le h'->dR R sz h' i (l++[a]) B'->Nd B'->(∀ b∈B',h0 b=none)->Ev h h' (B++Bi) B'->K i h'):App bytes sz zero F h p n cap m vs K:=by
 obtain⟨xs,s,f,I,j,rfl⟩:=d;have C:=j.len;have S:=j.in x;have T:=x _ _ _ _ g;refine cX (h0:=h0) (ys:=[vs]) I (λb c=>w b (by simp[c])) hle Z W (by simpa using OD) N hz (by simpa [C]using L) (by simpa [C]using M) ?_;intro i h' B' G t H u v;have P:=D;have E:∀ b,b∈f++Bi->b ∉ s:=by
  intro b c J;have:=P b;have:=List.count_pos_iff.2 c;have:=List.count_pos_iff.2 J;simp only[List.count_append]at *;omega
 have Q:∀ b,b∈f++Bi->∃ o,h b=some o:=λb c=>(List.mem_append.1 c).elim (S b) (T b);have z:cD h h' (f++Bi):=λb c o d=>by rw[u b (E b c) (by rw[d];simp)];exact d
 refine V i h' (B'++(f++Bi)) G ⟨xs++[vs],B',f++Bi,by simpa using t,(j.aJ y z.l).app (Rows.one (y _ _ _ _ _ z.r g)),rfl⟩ ?_ ?_ ?_
 ·have:=Nd.swap (A:=f++Bi) (X:=s) (X':=B') (D.perm λa=>by simp only[List.count_append];omega) t.nd (λb c=>?_)
  ·exact this.perm λa=>by simp only[List.count_append];omega
  rcases v b c with e|e
  ·exact .inl e
  refine .inr λg=>?_;obtain⟨o,d⟩:=Q b g;rw[e]at d;cases d
 ·intro b c;rcases List.mem_append.1 c with c|c
  ·exact H b c
  exact w b (by simp at c ⊢;grind)
 refine⟨λb c Y=>u b (λe=>Y (by simp[e])) c,λb c=>?_⟩;rcases List.mem_append.1 c with c|c
 ·exact(v b c).imp (λe=>by simp[e]) id
 exact .inl (by simp at c ⊢;grind)
theorem xN (f:bL) (y z:Value) (h:Heap) (d:kY h y f.locals) (o:kY h z f.stack) :
  bI prog 93 [.agg #[.int .i64 f.aC,.int .i64 f.pc,y,z]] h λv h'=>h.le h'/\∃ x B,v=.agg ⟨x⟩/\x.length=4/\dD x=true/\mo h' x f B/\Nd B/\∀ b∈B,h b=none:=by
 have A:=d;have C:=o;obtain⟨_,_,M,G,rfl,_⟩:=d;obtain⟨_,_,P,I,rfl,_⟩:=o;refine bT aB func93 ZD U rfl ?_;conv=>whnf
 refine cO (qx _ _ h A) ?_;rintro v d ⟨e,i,g,F⟩;refine⟨e,?_⟩;have m:=g.form;obtain⟨N,H,rfl,_⟩:=m;conv=>whnf
 refine cO (qx _ _ d (C.le e)) ?_;rintro v o ⟨p,j,q,u⟩;refine⟨p,?_⟩;have m:=q.form;obtain⟨Q,J,rfl,_⟩:=m;conv=>whnf
 refine⟨Heap.le_trans e p,_,i++j,rfl,rfl,rfl,⟨_,_,i,j,rfl,g.aJ (cD.of_le p _),q,rfl⟩,?_,?_⟩
 ·intro a;have K:=g.nd a;have L:=q.nd a;simp only[List.count_append];by_cases s:a∈j
  ·have:i.count a=0:=by
    refine List.count_eq_zero.2 λE=>?_;obtain⟨w,t⟩:=g.in a E;rw[u a s]at t;cases t
   omega
  have:=List.count_eq_zero.2 s;omega
 intro b c;rcases List.mem_append.1 c with c|c
 ·exact F b c
 cases D:h b with
 | none=>rfl
 | some w=>have:=u b c;rw[e b w D]at this;cases this
structure Acc {α:Type} (R:Heap->List Value->α->List Nat->Prop) (sz:Nat) (h0 h:Heap) (v:Value) (l:List α) (B A:List Nat):Prop where
 le:h0.le h
 own:dR R sz h v l B
 nd:Nd (B++A)
 fr:∀ b∈B++A,h0 b=none
 Ws:∀ b∈A,∃ o,h b=some o
theorem Acc.start {e:Type} {R:Heap->List Value->e->List Nat->Prop} {sz:Nat} {h0 h:Heap} {A:List Nat} (c:h0.le h) (nd:Nd A) (a:∀ b∈A,h0 b=none) (d:∀ b∈A,∃ o,h b=some o):Acc R sz h0 h (.slice none 0 0) [] [] A :=
 ⟨c,⟨[],[],[],⟨Z,.inl ⟨rfl,rfl,rfl⟩⟩,.nil,rfl⟩,nd,a,d⟩
theorem qz {x:Type} {R:Heap->List Value->x->List Nat->Prop} (E:Kept R) (D:Iz R) {bytes sz:Nat} {zero:List Value} {G:TypeId} {h0 h j:Heap} {p:Option Addr} {n cap:Nat} {l:List x} {a:x} {B A Bi:List Nat} {m:Nat} {vs:List Value} {K:Value->Heap->Prop}
  (ac:Acc R sz h0 h (.slice p n cap) l B A) (q:h.le j) (u:R j vs a Bi) (N:Nd Bi) (g:∀ b∈Bi,h b=none) (Y:m=1) (OD:vs.length=sz) (S:dD vs=true) (hz:zero.length=sz)
  (P:(l.length+1)*bytes<=2 ^ 44) (Q:l.length+1<=2 ^ 44)
  (W:∀ s i f B',Acc R sz h0 f (.slice s (l.length+1) i) (l++[a]) B' A->cD h f A->K (.slice s (l.length+1) i) f):App bytes sz zero G j p n cap m vs K:=by
 obtain⟨hle,own,nd,y,v⟩:=ac;have V:=own.in D;have key:∀ b,b∈Bi->b ∉ B++A:=by
  intro b c d;rcases List.mem_append.1 d with d|d
  ·obtain⟨o,e⟩:=V b d;rw[g b c]at e;cases e
  obtain⟨o,e⟩:=v b d;rw[g b c]at e;cases e
 have w:Nd (B++A++Bi):=by
  have:=Nd.swap (A:=B++A) (X:=[]) (X':=Bi) (by simpa using nd) N (λb c=>.inr (key b c));exact this
 have H:∀ b∈Bi,h0 b=none:=by
  intro b c;cases T:h0 b with
  | none=>rfl
  | some o=>have:=g b c;rw[hle b o T]at this;cases this
 refine kZ E D (h0:=h0) (own.aJ E (cD.of_le q _)) u (w.less λa=>by simp only[List.count_append];omega) (λb c=>?_) (Heap.le_trans hle q) Y OD S hz P Q ?_
 ·rcases List.mem_append.1 c with c|c
  ·exact y b (by simp[c])
  exact H b c
 intro v' f B' I t J L z;obtain⟨s,i,rfl,Lw⟩:=t.form;have M:∀ b∈A,b ∉ B++Bi:=by
  intro b c d;have:=w b;have j:=List.count_pos_iff.2 c;have f:=List.count_pos_iff.2 d;simp only[List.count_append]at *;omega
 have F:cD h f A:=λb c o e=>by
  have C:=q b o e;rw[z.qv b (by rw[C];simp) (M b c)];exact C
 have g:(l++[a]).length=l.length+1:=by simp
 rw[g]at t ⊢;refine W s i f B' ⟨I,t,?_,?_,λb c=>?_⟩ F
 ·have:=Nd.swap (A:=A) (X:=B++Bi) (X':=B') (w.perm λa=>by simp only[List.count_append];omega) J (λb c=>?_)
  ·exact this.perm λa=>by simp only[List.count_append];omega
  rcases z.new b c with d|d
  ·exact .inl d
  refine .inr λu=>?_;obtain⟨o,e⟩:=v b u;rw[q b o e]at d;cases d
 ·intro b c;rcases List.mem_append.1 c with c|c
  ·exact L b c
  exact y b (by simp[c])
 obtain⟨o,e⟩:=v b c;exact⟨o,F b c o e⟩
theorem zm (mc:List Value) (M:bH) (h:Heap) (hr:qy h mc M) :
  bI prog 41 [.agg ⟨mc⟩] h λv h'=>h.le h'/\∃ Fx B,v=.agg ⟨Fx⟩/\eX h' Fx M B/\Nd B/\∀ b∈B,h b=none:=by
 obtain⟨vo,vf,vs,rfl,s1,s2,Y,X,hs⟩:=hr;obtain⟨po,R,rfl,_,_⟩:=Y.len;obtain⟨pf,Q,rfl,_,_⟩:=X.len;have Ta:=hs;obtain⟨_,_,ps,cs,rfl,_⟩:=hs;refine bT aB func41 YS U rfl ?_;unfold aE;conv=>whnf
 refine cO (Fw _ _ h Ta) ?_;rintro v h1 ⟨l1,e,c,ns⟩;refine⟨l1,?_⟩;have C:=c.form;obtain⟨u,p,rfl,_⟩:=C;conv=>whnf
 refine eu [1,2,3,19,20,21] [1,2,3] (λs:Nat × Heap × Option Addr × Nat × List Nat=>s.1<=M.objs.length/\Acc jt 2 h s.2.1 (.slice s.2.2.1 s.1 s.2.2.2.1) (M.objs.take s.1) s.2.2.2.2 e/\dI s.2.1 (.slice u (M.said.map bP).length p) M.said e) (λs=>M.objs.length-s.1)
  (λs=>([.l 1 0,.l 2 0,.l 3 0,.v (.slice po M.objs.length R),.v (.int .i64 M.objs.length),.v (.int .i64 s.1)],
   [some (aE (.slice po M.objs.length R) (.slice pf M.au.length Q) (.slice ps (M.said.map bP).length cs) M),some [.slice none 0 0,.slice none 0 0,.slice none 0 0,.int .i64 0,.int .i64 0,.bool false,.int .i64 0],
    some (aE (.slice s.2.2.1 s.1 s.2.2.2.1) (.slice none 0 0) (.slice u (M.said.map bP).length p) M)],s.2.1))
  (0,h1,none,0,[]) ⟨O,Acc.start l1 c.nd ns c.in,c⟩ rfl ?_
 rintro⟨i,T,aa,P,B⟩ ⟨F,ac,c⟩;simp only at F ac c ⊢;unfold aE;conv=>whnf
 apply aD<;>intro D;all_goals conv=>whnf
 ·have m:i < M.objs.length:=by omega
  have y:=(Y.le ac.le (λ_ _ t=>t.le ac.le)).get m;obtain⟨bb,off,xs,H,z,vv,rfl,j⟩:=y;have A:=j;obtain⟨_,_,pv,cv,rfl,_⟩:=j;refine ay ?_;conv=>whnf
  refine aP H ?_;conv=>whnf
  refine dh z ?_;conv=>whnf
  refine cO (qx _ _ T A) ?_;rintro v V ⟨l3,N,f,I⟩;refine⟨l3,?_⟩;have C:=f.form;obtain⟨pv',cv',rfl,_⟩:=C;conv=>whnf
  refine qz gP vH (a:=M.objs[i]) (Bi:=N) ac l3 ⟨_,rfl,f⟩ f.nd I rfl rfl rfl rfl (by simp;omega) (by simp;omega) ?_;intro K x W w g q;have o:(M.objs.take i).length=i:=by simp;omega
  rw[List.take_append_getElem m,o]at g;rw[o];conv=>whnf
  refine av ?_;conv=>whnf
  exact cT (i+1,W,K,x,w) ⟨O,g,c.aJ q⟩ (by simp only;omega) rfl
 have G:i=M.objs.length:=by omega
 subst G;rw[List.take_length]at ac;have hA:Nd (B++e):=ac.nd;refine eu [2,3,38,39,40] [2,3] (λs:Nat × Heap × Option Addr × Nat × List Nat=>s.1<=M.au.length/\Acc mo 4 h s.2.1 (.slice s.2.2.1 s.1 s.2.2.2.1) (M.au.take s.1) s.2.2.2.2 (B++e)/\dR jt 2 s.2.1 (.slice aa M.objs.length P) M.objs B/\dI s.2.1 (.slice u (M.said.map bP).length p) M.said e) (λs=>M.au.length-s.1)
  (λs=>([.l 2 0,.l 3 0,.v (.slice pf M.au.length Q),.v (.int .i64 M.au.length),.v (.int .i64 s.1)],
   [some [.slice none 0 0,.slice none 0 0,.slice none 0 0,.int .i64 0,.int .i64 0,.bool false,.int .i64 0],
    some (aE (.slice aa M.objs.length P) (.slice s.2.2.1 s.1 s.2.2.2.1) (.slice u (M.said.map bP).length p) M)],s.2.1))
  (0,T,none,0,[]) ⟨O,Acc.start ac.le hA ac.fr (λb E=>(List.mem_append.1 E).elim (ac.own.in vH b) (ac.Ws b)),ac.own,c⟩ rfl ?_
 rintro⟨i,V,p2,c2,L⟩ ⟨F,d,J,c⟩;simp only at F d J c ⊢;unfold aE;conv=>whnf
 apply aD<;>intro D;all_goals conv=>whnf
 ·have m:i < M.au.length:=by omega
  have y:=(X.le d.le (λ_ _ t=>t.le d.le)).get m;obtain⟨bb,off,xs,H,z,v1,v2,rfl,j,S⟩:=y;have A:=j;have Tb:=S;obtain⟨_,_,pv,cv,rfl,_⟩:=j;obtain⟨_,_,pw,cw,rfl,_⟩:=S;refine ay ?_;conv=>whnf
  refine aP H ?_;conv=>whnf
  refine dh z ?_;conv=>whnf
  refine cO (xN _ _ _ V A Tb) ?_;rintro v W ⟨l4,ab,N,rfl,t,Wt,f,ZN,I⟩;refine⟨l4,?_⟩;have ZO:=f;obtain⟨w1,w2,C1,C2,rfl,Tc,ID,rfl⟩:=f;obtain⟨pw1,cw1,rfl,_⟩:=Tc.form;obtain⟨pw2,cw2,rfl,_⟩:=ID.form;conv=>whnf
  refine qz jL Nv (a:=M.au[i]) d l4 ZO ZN I rfl rfl rfl rfl (by simp;omega) (by simp;omega) ?_;intro K x h5 w g q;have o:(M.au.take i).length=i:=by simp;omega
  rw[List.take_append_getElem m,o]at g;rw[o];conv=>whnf
  refine av ?_;conv=>whnf
  exact cT (i+1,h5,K,x,w) ⟨O,g,J.aJ gP q.l,c.aJ q.r⟩ (by simp only;omega) rfl
 have G:i=M.au.length:=by omega
 subst G;rw[List.take_length]at d;refine⟨d.le,_,B++L++e,rfl,⟨_,_,_,B,L,e,rfl,J,d.own,c,rfl⟩,d.nd.perm λa=>by simp only[List.count_append];omega,λb E=>d.fr b (by simp at E ⊢;grind)⟩
def cI (u:aS) (x:dc):Option (List Int) :=
 if x.kind=4\/x.kind=5\/x.kind=6\/x.kind=22 then some [0]
 else if x.kind=7\/x.kind=8\/x.kind=9 then some [1,1]
 else if x.kind=13\/x.kind=24 then some [1]
 else if x.kind=10\/x.kind=14\/x.kind=17\/x.kind=19\/x.kind=23 then some [2]
 else if x.kind=15 then some [2,1]
 else if x.kind=16 then some [2,1,0]
 else if x.kind=18 then some [2,0]
 else if x.kind=20 then some (List.replicate (aY u x.a).args.length 0)
 else if x.kind=21 then (if find u x.a x.b < 0 then none else some (2::List.replicate (aY u (find u x.a x.b)).args.length 0))
 else some []
theorem uy {c s:Int}:∀(l:List cu) (k:Int),gI c s l k < k+l.length\/gI c s l k = -1
 | [],k=>.inr rfl
 | m::r,k=>by
  rw[gI];split
  ·left;simp;omega
  rcases uy (c:=c) (s:=s) r (k+1)with h|h
  ·left;simp at h ⊢;omega
  exact .inr h
theorem sV {u:aS} {s:Int}:∀(k:Nat) (c:Int),-1<=kU u s k c/\(kU u s k c < u.methods.length)
 | 0,c=>by simp[kU];omega
 | k+1,c=>by
  rw[kU];split
  ·split
   ·have a:=uy (c:=c) (s:=s) u.methods 0;omega
   exact sV k _
  omega
theorem gK (u:aS) (c s:Int) : -1<=find u c s/\find u c s < u.methods.length:=sV _ _
theorem gz {vs:List (List Value)} {sz:Nat} {h:Heap} {b n:Nat} {t:TypeId} (a:∀ x∈vs,x.length=sz) (d:n=vs.length) (c:h b=some (.cells vs.flatten.toArray t (0,0))):bW sz h (.slice (some ⟨b,0,none⟩) n n) vs [b]:=by
 subst d;exact⟨a,.inr ⟨b,_,[],t,rfl,Nat.le_refl _,by simpa using c,by rw[List.append_nil,bQ a],rfl⟩⟩
theorem LP (R:List Value) (u:aS) (x:dc) (h:Heap) (K:cZ h R u) (ok:cn u.aq) (OE:x.kind=20->0<=x.a/\x.a < u.methods.length) (Kg:x.kind=21->0<=x.a/\x.a < u.aq.length) (hargs:∀ m∈u.methods,m.args.length<=2) :
  cF prog 166 [.agg ⟨R⟩,.agg #[.int .i64 x.kind,.int .i64 x.a,.int .i64 x.b]] h λo h'=>match o with
   | .ret v=>∃ d,cI u x=some d/\d.length<=3/\h.le h'/\∃ B,dI h' v d B/\∀ b∈B,h b=none
   | .jj c=>cI u x=none/\c=gY 0/\h.le h':=by
 have oT:=K;obtain⟨Q,cc,aa,ab,rfl,hcs,kS,ko,hl2⟩:=K.form;refine outs aB func166 Ss U rfl ?_;conv=>whnf
 have one:∀(d:List Int),cI u x=some d->d.length<=3->∀ b t,h b=none->(∃ E,cI u x=some E/\E.length<=3/\h.le (h.set b (.cells (d.map (.int .i64)).toArray t))/\∃ B,dI (h.set b (.cells (d.map (.int .i64)).toArray t)) (.slice (some ⟨b,0,none⟩) d.length d.length) E B/\∀ b∈B,h b=none):=by
  intro d G H b t a;refine⟨d,G,H,Heap.aR (Heap.le_refl h) a,[b],gz (t:=t) (by simp[bP]) Z (by simp[Heap.set,dy]),by simpa using a⟩
 have two:∀ k:Int,0<=k->k < u.methods.length->∃ e f Q c,aa=some ⟨e,f,none⟩/\rd h e (f+k.toNat*8+2)=some (.slice Q (aY u k).args.length c)/\(aY u k).args.length<=2:=by
  intro k G H;have I:k.toNat < u.methods.length:=by omega
  have j:=kS.get I;obtain⟨e,f,vs,p,T,V⟩:=j;obtain⟨z,w,p2,c2,p3,c3,p4,c4,W,_⟩:=V.form;subst W;have J:aY u k=u.methods[k.toNat]:=fm I O;exact⟨e,f,z,w,p,by rw[J];exact aM T (i:=2) rfl,by rw[J];exact hargs _ (List.getElem_mem _)⟩
 by_cases q:x.kind=4\/x.kind=5\/x.kind=6\/x.kind=22
 ·repeat' ((first|refine bZ ?_|refine bD ?_|refine cU ?_|refine cy ?_|apply aD<;>intro _|apply aU<;>intro _|apply dM<;>intro _|apply cq<;>intro _|refine ay ?_|refine av ?_|refine ptr ?_|refine new (λb a=>?_))<;>conv=>whnf)
  all_goals exact one [0] (by simp[cI,q]) Z b _ a
 by_cases y:x.kind=7\/x.kind=8\/x.kind=9
 ·repeat' ((first|refine bZ ?_|refine bD ?_|refine cU ?_|refine cy ?_|apply aD<;>intro _|apply aU<;>intro _|apply dM<;>intro _|apply cq<;>intro _|refine ay ?_|refine av ?_|refine ptr ?_|refine new (λb a=>?_))<;>conv=>whnf)
  all_goals exact one [1,1] (by simp[cI,q,y]) Z b _ a
 by_cases C:x.kind=13\/x.kind=24
 ·repeat' ((first|refine bZ ?_|refine bD ?_|refine cU ?_|refine cy ?_|apply aD<;>intro _|apply aU<;>intro _|apply dM<;>intro _|apply cq<;>intro _|refine ay ?_|refine av ?_|refine ptr ?_|refine new (λb a=>?_))<;>conv=>whnf)
  all_goals exact one [1] (by simp[cI,q,y,C]) Z b _ a
 by_cases L:x.kind=10\/x.kind=14\/x.kind=17\/x.kind=19\/x.kind=23
 ·repeat' ((first|refine bZ ?_|refine bD ?_|refine cU ?_|refine cy ?_|apply aD<;>intro _|apply aU<;>intro _|apply dM<;>intro _|apply cq<;>intro _|refine ay ?_|refine av ?_|refine ptr ?_|refine new (λb a=>?_))<;>conv=>whnf)
  all_goals exact one [2] (by simp[cI,q,y,C,L]) Z b _ a
 by_cases M:x.kind=15
 ·repeat' ((first|refine bZ ?_|refine bD ?_|refine cU ?_|refine cy ?_|apply aD<;>intro _|apply aU<;>intro _|apply dM<;>intro _|apply cq<;>intro _|refine ay ?_|refine av ?_|refine ptr ?_|refine new (λb a=>?_))<;>conv=>whnf)
  all_goals exact one [2,1] (by simp[cI,M]) Z b _ a
 by_cases N:x.kind=16
 ·repeat' ((first|refine bZ ?_|refine bD ?_|refine cU ?_|refine cy ?_|apply aD<;>intro _|apply aU<;>intro _|apply dM<;>intro _|apply cq<;>intro _|refine ay ?_|refine av ?_|refine ptr ?_|refine new (λb a=>?_))<;>conv=>whnf)
  all_goals exact one [2,1,0] (by simp[cI,N]) Z b _ a
 by_cases P:x.kind=18
 ·repeat' ((first|refine bZ ?_|refine bD ?_|refine cU ?_|refine cy ?_|apply aD<;>intro _|apply aU<;>intro _|apply dM<;>intro _|apply cq<;>intro _|refine ay ?_|refine av ?_|refine ptr ?_|refine new (λb a=>?_))<;>conv=>whnf)
  all_goals exact one [2,0] (by simp[cI,P]) Z b _ a
 by_cases D:x.kind=20
 ·have A:=OE D;have j:=two x.a A.1 A.2;obtain⟨e,f,z,w,p,g,r2⟩:=j;repeat' ((first|refine bZ ?_|refine bD ?_|refine cU ?_|refine cy ?_|apply aD<;>intro _|apply aU<;>intro _|apply dM<;>intro _|apply cq<;>intro _|refine ay ?_|refine av ?_|refine ptr ?_|refine aP p ?_|refine ld g ?_)<;>conv=>whnf)
  refine ob ⟨rfl,O,by show(_:Int)*((8:Nat):Int)<=_;omega,O⟩ ?_;conv=>whnf
  refine new (λb a=>?_);conv=>whnf
  have:=one (List.replicate (aY u x.a).args.length 0) (by simp[cI,D]) (by simpa using by omega) b 193 a;have EH:(List.replicate (aY u x.a).args.length [Value.int .i64 0]).flatten=(List.replicate (aY u x.a).args.length (0:Int)).map (.int .i64):=by
   rw[List.map_replicate,List.flatten_replicate_singleton]
  simp only[Int.toNat_natCast];rw[EH];simpa using this
 by_cases s:x.kind=21
 ·have A:=Kg s;have hf:=gK u x.a x.b;have hc:oq u x=find u x.a x.b:=by simp[oq,s]
  have F:=Bj _ u x h oT ok O;rw[hc]at F;repeat' ((first|refine bZ ?_|refine bD ?_|refine cU ?_|refine cy ?_|apply aD<;>intro _|apply aU<;>intro _|apply dM<;>intro _|apply cq<;>intro _|refine ay ?_|refine av ?_|refine ptr ?_|refine ax F ?_)<;>conv=>whnf)
  ·exact⟨by simp[cI,s];omega,rfl,Heap.le_refl h⟩
  have j:=two (find u x.a x.b) O hf.2;obtain⟨e,f,z,w,p,g,r2⟩:=j;refine new (λb a=>?_);have hle:h.le (h.set b (.cells [Value.int .i64 2].toArray 193)):=Heap.aR (Heap.le_refl h) a;have Nw:rd (h.set b (.cells [Value.int .i64 2].toArray 193)) e (f+(find u x.a x.b).toNat*8+2)=some (.slice z (aY u (find u x.a x.b)).args.length w):=by
   rw[kq (by rintro rfl;unfold rd at g;rw[a]at g;cases g)];exact g
  conv=>whnf
  repeat' ((first|apply aD<;>intro _|apply aU<;>intro _|apply dM<;>intro _|apply cq<;>intro _|refine aP p ?_|refine ld Nw ?_|refine ay ?_|refine av ?_|refine ptr ?_)<;>conv=>whnf)
  refine E5 aB rfl rfl rfl rfl rfl rfl rfl ⟨by show _*8<=_;omega,O⟩ ?_;refine cX (h0:=h) (xs:=[[.int .i64 2]]) (ys:=List.replicate (aY u (find u x.a x.b)).args.length [.int .i64 0]) (B:=[b]) (gz (t:=193) Z rfl (by simp[Heap.set,p7,dU,HS])) (by simpa using a) hle rfl Z Z ?_ rfl (by simp;omega) (by simp;omega) ?_
  ·have:=di (List.replicate (aY u (find u x.a x.b)).args.length 0);rw[List.map_replicate]at this;rw[List.flatten_replicate_singleton];exact this
  intro v' h' S X Y g3 g4 g5;conv=>whnf
  refine⟨2::List.replicate (aY u (find u x.a x.b)).args.length 0,by simp[cI,s];omega,by simpa using by omega,X,S,?_,g3⟩;simpa [dI,bP]using Y
 repeat' ((first|refine bZ ?_|refine bD ?_|refine cU ?_|refine cy ?_|apply aD<;>intro _|apply aU<;>intro _|apply dM<;>intro _|apply cq<;>intro _|refine ay ?_|refine av ?_|refine ptr ?_)<;>conv=>whnf)
 exact⟨[],by simp only[cI,q,y,C,L,M,N,P,D,s,if_false],Z,Heap.le_refl h,[],⟨Z,.inl ⟨rfl,rfl,rfl⟩⟩,Z⟩
theorem fo.mono {h0 h h':Heap} {bm:Nat} {pre post:List Value} {M:bH} {B:List Nat} (c:fo h0 h bm pre post M B) (a:h.le h'):fo h0 h' bm pre post M B:=by
 obtain⟨hle,⟨f,t,d,e⟩,nd,b⟩:=c;exact⟨Heap.le_trans hle a,⟨f,t,a _ _ d,e.aJ (cD.of_le a _)⟩,nd,b⟩
theorem aW {h h':Heap} (d:h.le h') {b i:Nat} {v:Value} (a:rd h b i=some v):rd h' b i=some v:=by
 unfold rd at a ⊢;cases c:h b with
 | none=>rw[c]at a;cases a
 | some o=>rw[c]at a;rw[d b o c];exact a
theorem iQ.mono {h0 h h':Heap} {c bm b off:Nat} {u:aS} {m:cu} {fs:List bL} {f:bL} {M:bH} {B:List Nat} (g:iQ h0 h c bm b off u m fs f M B) (a:h.le h'):iQ h0 h' c bm b off u m fs f M B:=by
 obtain⟨e,i,⟨s,d,p⟩,⟨v,x,w,q,t,j⟩,o⟩:=g;exact⟨e.mono a,i,⟨s,d,aW a p⟩,⟨v,x,w,a _ _ q,t,j⟩,o⟩
theorem fo.in {h0 h:Heap} {bm:Nat} {pre post:List Value} {M:bH} {B:List Nat} (c:fo h0 h bm pre post M B):∀ b∈bm::B,∃ o,h b=some o:=by
 obtain⟨hle,⟨g,t,d,e⟩,nd,f⟩:=c;intro b a;rcases List.mem_cons.1 a with rfl|a
 ·exact⟨_,d⟩
 exact e.in b a
theorem sub {a:Option Addr} {cap l b:Nat} {K:Option Addr->Prop} (c:∀ oa,(cap≠l->oa=a.map λa=>a.add (l*b))->(cap=l->oa=a)->K oa):Sub a cap l b K:=by
 rw[xm];unfold EL;exact c
theorem bW.rest {sz:Nat} {h:Heap} {p oa:Option Addr} {n cap l:Nat} {xs:List (List Value)} {B:List Nat} (q:bW sz h (.slice p n cap) xs B) (m:l<=n) (A:n<=1000000) (f:cap≠l->oa=p.map λa=>a.add (l*sz)) (u:cap=l->oa=p) :
  jM sz h (.slice oa (n-l) (cap-l)) (xs.drop l):=by
 obtain⟨c,⟨b,rfl,_⟩|⟨e,t,rest,C,b,v,g,w,_⟩⟩:=q
 ·simp only[Value.slice.injEq]at b;obtain⟨rfl,rfl,rfl⟩:=b;have:l=0:=by omega
  subst this;exact⟨Z,Z,oa,0,Z,Z,.inl Z⟩
 simp only[Value.slice.injEq]at b;obtain⟨rfl,rfl,rfl⟩:=b;refine⟨by simp;omega,λx o=>c x (List.mem_of_mem_drop o),oa,cap-l,Z,by simp;omega,?_⟩;by_cases i:cap=l
 ·left
  apply List.eq_nil_of_length_eq_zero
  simp;omega
 right
 refine⟨e,l*sz,by rw[f i];simp[js],?_⟩;have z:=bQ c;have s:(xs.take l).flatten.length=l*sz:=by
  rw[bQ (sz:=sz) (λy d=>c y (List.mem_of_mem_take d)),List.length_take,Nat.min_eq_left m]
 have j:(xs.drop l).flatten.length=(xs.drop l).length*sz:=bQ (λy d=>c y (List.mem_of_mem_drop d));have b:xs.flatten=(xs.take l).flatten++(xs.drop l).flatten:=by rw[<-List.flatten_append,List.take_append_drop]
 rw[bK g _ _ (by rw[b];simp only[List.length_append];omega),b];rw[List.append_assoc,List.drop_append_of_le_length O,<-s,List.drop_length,List.nil_append,<-j,List.take_left]
theorem bW.first {sz:Nat} {h:Heap} {p:Option Addr} {n cap l:Nat} {xs:List (List Value)} {B:List Nat} (g:bW sz h (.slice p n cap) xs B) (d:l<=n):bW sz h (.slice p l cap) (xs.take l) B:=by
 obtain⟨i,⟨a,rfl,rfl⟩|⟨b,j,rest,t,a,m,c,e,rfl⟩⟩:=g
 ·simp only[Value.slice.injEq]at a;obtain⟨rfl,rfl,rfl⟩:=a;have:l=0:=by omega
  subst this;exact⟨Z,.inl ⟨rfl,Z,rfl⟩⟩
 simp only[Value.slice.injEq]at a;obtain⟨rfl,rfl,rfl⟩:=a;have a:xs.flatten=(xs.take l).flatten++(xs.drop l).flatten:=by rw[<-List.flatten_append,List.take_append_drop]
 refine⟨λx f=>i x (List.mem_of_mem_take f),.inr ⟨b,cap,(xs.drop l).flatten++rest,t,?_,by simp;omega,by rw[c,a];simp,?_,rfl⟩⟩
 ·rw[List.length_take,Nat.min_eq_left d]
 rw[<-e,a];simp
theorem bW.nth {sz:Nat} {h:Heap} {p:Option Addr} {n cap:Nat} {xs:List (List Value)} {B:List Nat} (f:bW sz h (.slice p n cap) xs B) {i:Nat} (q:i < xs.length) :
  ∃ b,p=some ⟨b,0,none⟩/\dQ h b (0+i*sz) sz=some xs[i]/\B=[b]:=by
 have g:xs=xs.take i++xs[i]::xs.drop (i+1):=by simp
 obtain⟨b,o,pre,post,t,a,e,c,m,d,_⟩:=bW.at (show bW sz h (.slice p n cap) (xs.take i++xs[i]::xs.drop (i+1)) B by rw[<-g];exact f);simp only[Value.slice.injEq]at a;refine⟨b,a.1,?_,d⟩;have j:(xs.take i).length=i:=by simp;omega
 rw[j]at c;rw[bK e _ _ (by simp only[List.length_append];omega)];rw[Nat.zero_add,<-c,List.append_assoc,List.drop_left,<-m,List.take_left]
def gA:List Int->List Vl->Bool
 | w::ws,v::vs=>!((decide (w=1)&&v.ref)||(decide (w=2) && !v.ref))&&gA ws vs
 | _,_=>true
def dz (u:aS) (x:dc) (cA:List Vl):Option (List Vl × List Vl):=match cI u x with
 | none=>none
 | some a=>if cA.length < a.length then none else if gA a (cA.drop (cA.length-a.length))then some (cA.drop (cA.length-a.length),cA.take (cA.length-a.length))else none
theorem Fy {a:List Int} {vs:List Vl}:∀ {i:Nat} (c:i < a.length) (b:i < vs.length),gA (a.drop i) (vs.drop i)=(!((decide (a[i]=1)&&vs[i].ref)||(decide (a[i]=2) && !vs[i].ref))&&gA (a.drop (i+1)) (vs.drop (i+1))):=by
 intro i c b;rw[List.drop_eq_getElem_cons c,List.drop_eq_getElem_cons b,gA]
theorem sW (l:List Vl) (k:Nat):(l.map bM).drop k=(l.drop k).map bM:=by rw[List.map_drop]
structure Ki (u:aS) (x:dc):Prop where
 ok:cn u.aq
 args:∀ m∈u.methods,m.args.length<=2
 OE:x.kind=20->0<=x.a/\x.a < u.methods.length
 Kg:x.kind=21->0<=x.a/\x.a < u.aq.length
theorem Fz (h0 h:Heap) (s bm J off:Nat) (u:aS) (m:cu) (fs:List bL) (f:bL) (M:bH) (B:List Nat) (x:dc) (hS:iQ h0 h s bm J off u m fs f M B) (e:Ki u x) (ZP:f.stack.length<=1000) :
  cF prog 133 [.pointer (some ⟨s,0,none⟩),.agg #[.int .i64 x.kind,.int .i64 x.a,.int .i64 x.b]] h λo h'=>match o with
   | .ret v=>∃ eB rest,dz u x f.stack=some (eB,rest)/\∃ B' q,iQ h0 h' s bm J off u m fs {f with stack:=rest} {M with au:=fs++[{f with stack:=rest}]} B'/\Ev h h' (bm::B) (bm::B') /\
     bR h' v eB q/\∀ b∈q,b ∉ bm::B'/\b≠s/\h0 b=none
   | .jj c=>dz u x f.stack=none/\c=gY 0/\Pn h0 bm h':=by
 have K:=hS;obtain⟨t,hf,oK,⟨ms,us,ts,Q,hu,hm⟩,mX⟩:=hS;have hle:=t.le;have oT:=hu.le hle;obtain⟨ad,cc,ae,aa,rfl,hcs,kS,ko,hl2⟩:=hu.form;obtain⟨p1,c1,p2,c2,p3,c3,p4,c4,rfl,h1,h2,h3,h4,h5,h6,h7,h8,b1,b2,b3,b4⟩:=hm.form;have ru:dQ h s 9 2=some [.slice ad u.aq.length cc,.slice ae u.methods.length aa]:=bK Q 2 9 (by simp[Qu]);refine outs aB func133 R4 U rfl ?_;conv=>whnf
 refine dh ru ?_;conv=>whnf
 refine od (LP _ u x h oT e.ok e.OE e.Kg e.args) ?_ ?_;rotate_left
 ·rintro c h' ⟨y,z,g⟩;exact⟨by simp[dz,y],z,t.Fv g⟩
 rintro v Y ⟨a,R,ZQ,D,Bw,ow,nw⟩;refine⟨D,?_⟩;obtain⟨pw,X,rfl,_⟩:=ow.form;have DI:=dP bP a;conv=>whnf
 obtain⟨af,qq,r,v1,ps,cs,B2,IA,hq,o2,DJ,r1,r2,_⟩:=(K.mono D).cA;have hlen:=dP bM f.stack;refine ld r1 ?_;conv=>whnf
 refine ld r2 ?_;conv=>whnf
 refine av ?_;conv=>whnf
 apply aD<;>intro E;all_goals conv=>whnf
 ·exact⟨by simp only[dz,R];rw[if_pos O],rfl,t.Fv D⟩
 refine ld r1 ?_;conv=>whnf
 refine ld r2 ?_;conv=>whnf
 refine ay ?_;conv=>whnf
 refine sub (λoa k1 k2=>?_);conv=>whnf
 have OF:(((f.stack.map bM).length:Int)-((a.map bP).length:Int)).toNat=f.stack.length-a.length:=by omega
 have P:=bW.rest (oa:=oa) (l:=(((f.stack.map bM).length:Int)-((a.map bP).length:Int)).toNat) o2 O O k1 k2;have ZR:kY Y (.slice oa ((f.stack.map bM).length-(((f.stack.map bM).length:Int)-((a.map bP).length:Int)).toNat) (cs-(((f.stack.map bM).length:Int)-((a.map bP).length:Int)).toNat)) (f.stack.drop (f.stack.length-a.length)):=by
  rw[OF]at P ⊢;rw[sW]at P;exact P
 refine aG (qx _ _ Y ZR) ?_;rintro v A ⟨l2,q,G,nt⟩;obtain⟨pt,W,rfl,_⟩:=G.form;conv=>whnf
 have ZS:((f.stack.drop (f.stack.length-a.length)).map bM).length=a.length:=by simp;omega
 have F:=Heap.le_trans D l2;have ID:dI A (.slice pw (a.map bP).length X) a Bw:=ow.aJ (cD.of_le l2 _);have Kj:gA a (f.stack.drop (f.stack.length-a.length))=false->dz u x f.stack=none:=by
  intro e;simp only[dz,R];rw[if_neg O];simp[e]
 refine eu [0,5,6,7,43,44,45] [] (λi:Nat=>i<=a.length/\gA a (f.stack.drop (f.stack.length-a.length))=gA (a.drop i) ((f.stack.drop (f.stack.length-a.length)).drop i)) (λi=>a.length-i)
  (λi=>([.v (.pointer (some ⟨s,0,none⟩)),.v (.slice pw (a.map bP).length X),.v (.int .i64 (((f.stack.map bM).length:Int)-((a.map bP).length:Int))),.v (.slice pt ((f.stack.drop (f.stack.length-a.length)).map bM).length W),.v (.slice pt ((f.stack.drop (f.stack.length-a.length)).map bM).length W),.v (.int .i64 ((f.stack.drop (f.stack.length-a.length)).map bM).length),.v (.int .i64 i)],[],A)) 0 ⟨O,Z⟩ rfl ?_
 rintro i ⟨hi,hg⟩;conv=>whnf
 apply aD<;>intro g2;all_goals conv=>whnf
 ·have Wu:i < a.length:=by omega
  have Wv:i < (f.stack.drop (f.stack.length-a.length)).length:=by simp;omega
  have ab:=G.nth (i:=i) (by simpa using Wv);obtain⟨bb,ZT,y,_⟩:=ab;have e':=ID.nth (i:=i) (by simpa using Wu);obtain⟨V,N,z,_⟩:=e';rw[List.getElem_map]at y z;have w:=Fy Wu Wv;rw[<-hg]at w;refine ay ?_;conv=>whnf
  refine aP ZT ?_;conv=>whnf
  refine dh y ?_;conv=>whnf
  refine ay ?_;conv=>whnf
  refine aP N ?_;conv=>whnf
  have g:rd A V (0+i*1)=some (.int .i64 a[i]):=by simpa using aM z (i:=0) rfl
  refine ld g ?_;conv=>whnf
  have again:∀ {T:Value->Prop},T (.int .i64 a[i])->Ld A V (0+i*1) T:=λhk=>ld g hk;apply aD<;>intro H;all_goals conv=>whnf
  ·apply dM<;>intro p;all_goals conv=>whnf
   ·exact⟨Kj (by rw[w,p];simp[H]),rfl,t.Fv F⟩
   refine ay ?_;conv=>whnf
   refine aP N ?_;conv=>whnf
   refine ld g ?_;conv=>whnf
   refine bD ?_;conv=>whnf
   refine av ?_;conv=>whnf
   refine cT (i+1) ⟨O,?_⟩ O rfl;rw[w,p];simp[H]
  refine ay ?_;conv=>whnf
  refine aP N ?_;conv=>whnf
  refine ld g ?_;conv=>whnf
  apply aD<;>intro I;all_goals conv=>whnf
  ·apply cq<;>intro p;all_goals conv=>whnf
   ·exact⟨Kj (by rw[w,p];simp[I]),rfl,t.Fv F⟩
   refine av ?_;conv=>whnf
   refine cT (i+1) ⟨O,?_⟩ O rfl;rw[w,p];simp[I]
  refine av ?_;conv=>whnf
  refine cT (i+1) ⟨O,?_⟩ O rfl;rw[w];simp[H,I]
 have vU:i=a.length:=by omega
 have uf:gA a (f.stack.drop (f.stack.length-a.length))=true:=by
  rw[hg,vU,List.drop_length];rfl
 have Qp:dz u x f.stack=some (f.stack.drop (f.stack.length-a.length),f.stack.take (f.stack.length-a.length)):=by
  simp only[dz,R];rw[if_neg O,if_pos uf]
 have Td:=K.mono F;obtain⟨t',qq',r',v1',Te,Nx,ZU,Tf,Iy,Ww,ZV,Nw,LQ,ju⟩:=Td.cA;have Wx:(f.stack.map bM).length<=Nx:=by
  obtain⟨_,_,he,hc⟩:=Ww.form;simp only[Value.slice.injEq]at he;omega
 refine ld Nw ?_;conv=>whnf
 refine ld Nw ?_;conv=>whnf
 refine ld LQ ?_;conv=>whnf
 refine ay ?_;conv=>whnf
 have OG:=Ww.first (l:=f.stack.length-a.length) Z;rw[<-List.map_take]at OG;obtain⟨y,z,g,B',s1,s2⟩:=ju A _ ZU (f.stack.take (f.stack.length-a.length)) f.pc (λ_ _ _=>rfl) OG (λb d=>.inl d);have C:∀ b∈q,h b=none:=by
  intro b d;cases L:h b with
  | none=>rfl
  | some o=>have:=nt b d;rw[D b o L]at this;cases this
 have LR:=G.in;refine st Tf (by simp;omega) ?_;conv=>whnf
 rw[Bn (i:=3) (by rw[Iy]) Z];have EP:∀ b∈q,b≠J:=by
  rintro b d rfl;have:=C b d;have h9:rd h b (off+3)≠none:=by
   have:=K.cA;obtain⟨_,_,_,_,_,_,_,E,_⟩:=this;intro e;rw[C b d]at E;cases E
  exact h9 (by unfold rd;rw[this])
 rw[OF];refine⟨_,_,Qp,B',q,s1,?_,?_,?_⟩
 ·exact Ev.trans (Ev.of_le F (bm::B) (λb d=>.inl d)) s2
 ·refine G.aJ λb d o j=>?_;simp only[Heap.set,EP b d,if_false];exact j
 intro b d;refine⟨λe=>?_,?_,?_⟩
 ·rcases s2.new b e with S|S
  ·obtain⟨o,j⟩:=t.in b S;rw[C b d]at j;cases j
  obtain⟨o,j⟩:=LR b d;rw[S]at j;cases j
 ·rintro rfl;rw[C b d]at Q;cases Q
 cases L:h0 b with
 | none=>rfl
 | some o=>have:=C b d;rw[hle b o L]at this;cases this
theorem fo.whole {h0 h:Heap} {bm:Nat} {pre post:List Value} {M:bH} {B:List Nat} (v:fo h0 h bm pre post M B) :
  ∃ t i f vs B1 d e,h bm=some (.cells (pre++aE i f vs M++post).toArray t (0,0))/\dR jt 2 h i M.objs B1/\dR mo 4 h f M.au d/\dI h vs M.said e/\B=B1++d++e /\
   ∀ h' j g m M' a b c,h' bm=some (.cells (pre++aE j g m M'++post).toArray t (0,0))->dR jt 2 h' j M'.objs a->dR mo 4 h' g M'.au b->dI h' m M'.said c ->
    Nd (bm::(a++b++c))->Ev h h' (bm::B) (bm::(a++b++c))->fo h0 h' bm pre post M' (a++b++c):=by
 obtain⟨hle,⟨D,t,w,i,f,vs,B1,d,e,rfl,q,s,u,rfl⟩,nd,o⟩:=v;refine⟨t,i,f,vs,B1,d,e,w,q,s,u,rfl,?_⟩;intro h' j g m M' a b c x y z A C p;exact⟨p.le hle o,⟨_,t,x,j,g,m,a,b,c,rfl,y,z,A,rfl⟩,C,p.fresh hle o⟩
theorem fo.obj {h0 h:Heap} {bm:Nat} {pre post:List Value} {M:bH} {B:List Nat} {w A:List Ob} {o:Ob} (E:fo h0 h bm pre post M B) (z:M.objs=w++o::A) :
  ∃ e c tm C vs q r t v Bi,h bm=some (.cells (pre++aE (.slice (some ⟨e,0,none⟩) M.objs.length c) C vs M++post).toArray tm (0,0)) /\
   h e=some (.cells (q++[.int .i64 o.cls,v]++r).toArray t (0,0))/\q.length=w.length*2/\bR h v o.bp Bi/\(∀ b∈Bi,b∈B/\b≠e)/\e∈B/\bm ∉ B /\
   ∀ h' x,bR h' v x Bi->(∀ b,b ∉ Bi->h b≠none->h' b=h b)->∃ B',fo h0 h' bm pre post {M with objs:=w++{o with bp:=x }::A} B'/\(∀ b,b∈bm::B'↔b∈bm::B):=by
 obtain⟨t,vo,C,vs,m,i,j,H,G,R,S,rfl,ju⟩:=E.whole;have nd:=E.nd;have V:=E.in;rw[z]at G;obtain⟨e,c,aa,q,r,t',Q,Bi,rfl,_,I,X,LS,⟨v,rfl,ov⟩,y,Tg⟩:=G.at gP;have W:M.objs.length=w.length+A.length+1:=by rw[z];simp;omega
 have f:∀ b∈Bi,b∈m/\b≠e/\b ∉ Q/\b ∉ i/\b ∉ j/\b≠bm:=by
  intro b a;have F:=List.count_pos_iff.2 a;have K:=y b;have g:=nd b;simp only[List.count_append,List.count_cons]at K g;refine⟨List.count_pos_iff.1 O,?_,λd=>?_,λd=>?_,λd=>?_,?_⟩
  ·rintro rfl;simp at K;omega
  ·have:=List.count_pos_iff.2 d;omega
  ·have:=List.count_pos_iff.2 d;omega
  ·have:=List.count_pos_iff.2 d;omega
  rintro rfl;simp at g;omega
 have J:e∈m:=(fS y e).2 Z;have T:bm ∉ m++i++j:=by
  intro d;have:=List.count_pos_iff.2 d;have g:=nd bm;simp only[List.count_cons,beq_self_eq_true,if_true]at g;omega
 refine⟨e,c,t,C,vs,q,r,t',v,Bi,by rw[W];exact H,I,X,ov,λb a=>⟨by simp[(f b a).1],(f b a).2.1⟩,by simp[J],T,?_⟩;intro h' x Y N;have u:∀ b,b∈bm::(m++i++j)->b ∉ Bi->h' b=h b:=by
  intro b a g;obtain⟨o,z⟩:=V b a;exact N b g (by rw[z];simp)
 obtain⟨D,o1,o2⟩:=Tg h' [.int .i64 o.cls,v] {o with bp:=x } Bi (by rw[u e (by simp[J]) (λd=>(f _ d).2.1 rfl)];exact I) rfl ⟨v,rfl,Y⟩ (λb a P s=>by
  rw[u b (by have:=(fS y b).2 (by simp[a]);simp[this]) (λd=>(f _ d).2.2.1 a)];exact s)
 have F:∀ p,(bm::(D++i++j)).count p=(bm::(m++i++j)).count p:=by
  intro p;have:=y p;have:=o2 p;simp only[List.count_append,List.count_cons]at *;omega
 have L:=fS F;refine⟨D++i++j,ju h' _ C vs {M with objs:=w++{o with bp:=x }::A} D i j ?_ o1 ?_ ?_ (nd.perm F) ?_,L⟩
 ·rw[u bm Z (λd=>(f _ d).2.2.2.2.2 rfl)];exact H
 ·exact R.aJ jL λb a P s=>by rw[u b (by simp[a]) (λd=>(f _ d).2.2.2.1 a)];exact s
 ·exact S.aJ λb a P s=>by rw[u b (by simp[a]) (λd=>(f _ d).2.2.2.2.1 a)];exact s
 refine⟨λb a g=>N b (λd=>g (by have:=(f b d).1;simp[this])) a,λb a=>.inl ((L b).1 a)⟩
theorem iQ.obj {h0 h:Heap} {a bm t off:Nat} {u:aS} {m:cu} {fs:List bL} {f:bL} {M:bH} {B:List Nat} {j D:List Ob} {o:Ob} (J:iQ h0 h a bm t off u m fs f M B) (Q:M.objs=j++o::D) :
  ∃ e c v Bi,rd h bm 0=some (.slice (some ⟨e,0,none⟩) M.objs.length c)/\rd h e (j.length*2)=some (.int .i64 o.cls)/\rd h e (j.length*2+1)=some v/\bR h v o.bp Bi /\
   ∀ h' p,bR h' v p Bi->(∀ b,b ∉ Bi->h b≠none->h' b=h b)->∃ B',iQ h0 h' a bm t off u m fs f {M with objs:=j++{o with bp:=p }::D} B'/\Ev h h' (bm::B) (bm::B'):=by
 obtain⟨H,L,⟨R,E,A⟩,⟨V,us,ts,C,S,N⟩,z⟩:=J;obtain⟨e,c,tm,vf,vs,aa,r,ab,v,Bi,w,x,hq,Y,s,ZW,K,ju⟩:=H.obj Q;refine⟨e,c,v,Bi,bA w (i:=0) Z rfl,bA x (i:=0) O rfl,bA x (i:=1) O rfl,Y,?_⟩;intro h' p T g;obtain⟨B',I,y⟩:=ju h' p T g;have W:bm ∉ Bi:=λd=>K (s _ d).1;have X:a ∉ Bi:=λd=>z (by simp[(s _ d).1]);have F:h' bm=h bm:=g bm W (by rw[w];simp);have G:h' a=h a:=g a X (by rw[C];simp);refine⟨B',⟨I,L,⟨R,E,by unfold rd at A ⊢;rw[F];exact A⟩,⟨V,us,ts,by rw[G];exact C,S,N⟩,λd=>z ((y a).1 d)⟩,⟨λb q P=>g b (λd=>P (by simp[(s b d).1])) q,λb q=>.inl ((y b).1 q)⟩⟩
theorem qA {a:Type} (l:List a) {i:Nat} (b:i < l.length):l=l.take i++l[i]::l.drop (i+1):=by simp
theorem DK (p:Option Addr) (n c:Nat) (a b:Int) (h:Heap) (d:a < 0):Pure prog 98 [.slice p n c,.int .i64 a,.int .i64 b] h (.bool false):=by
 refine fD aB func98 Rz Oo rfl ?_;conv=>whnf
 refine eu [0,2,7] [] (λx:Int=>x < 0) (λx=>0)
  (λx=>([.v (.slice p n c),.v (.int .i64 b),.v (.int .i64 x)],[],h)) a d rfl ?_
 rintro x e;conv=>whnf
 refine bD ?_;conv=>whnf
 exact⟨rfl,rfl⟩
theorem sX (p:Option Addr) (n c:Nat) (cs:List dH) (a b:Int) (h:Heap) (f:eD h (.slice p n c) cs) (ok:cn cs) (e:a < cs.length) :
  Pure prog 98 [.slice p n c,.int .i64 a,.int .i64 b] h (.bool (up cs a b)):=by
 by_cases d:a < 0
 ·rw[ng d];exact DK p n c a b h d
 exact og p n c cs a b h f ok O e
def Th:Ob:=⟨0,[]⟩
def aK (l:List Ob) (n:Int):Ob:=l.getD (n-1).toNat Th
theorem qB {l:List Ob} {n:Int} {i:Nat} (a:i < l.length) (b:n=i+1):aK l n=l[i]:=by
 have:(n-1).toNat=i:=by omega
 simp[aK,this,a]
theorem iQ.gZ {h0 h:Heap} {i bm g off:Nat} {u:aS} {m:cu} {fs:List bL} {f:bL} {M:bH} {B:List Nat} (p:iQ h0 h i bm g off u m fs f M B) {n:Int} (C:0 < n) (D:n<=M.objs.length) :
  ∃ d c v Bi,rd h bm 0=some (.slice (some ⟨d,0,none⟩) M.objs.length c)/\rd h d (0+(n-1).toNat*2)=some (.int .i64 (aK M.objs n).cls)/\rd h d (0+(n-1).toNat*2+1)=some v/\bR h v (aK M.objs n).bp Bi /\
   ∀ h' a,bR h' v a Bi->(∀ b,b ∉ Bi->h b≠none->h' b=h b)->∃ B',iQ h0 h' i bm g off u m fs f {M with objs:=M.objs.set (n-1).toNat {aK M.objs n with bp:=a } } B'/\Ev h h' (bm::B) (bm::B'):=by
 have e:(n-1).toNat < M.objs.length:=by omega
 obtain⟨d,c,v,Bi,z,j,o,y,A⟩:=p.obj (qA M.objs e);have t:(M.objs.take (n-1).toNat).length=(n-1).toNat:=by simp;omega
 have q:aK M.objs n=M.objs[(n-1).toNat]:=qB e O;rw[t]at j o;rw[q];refine⟨d,c,v,Bi,z,by simpa using j,by simpa using o,y,λh' a w x=>?_⟩;have s:M.objs.set (n-1).toNat {M.objs[(n-1).toNat]with bp:=a }=M.objs.take (n-1).toNat++{M.objs[(n-1).toNat]with bp:=a }::M.objs.drop ((n-1).toNat+1):=by
  rw[List.set_eq_take_append_cons_drop,if_pos e]
 rw[s];exact A h' a w x
theorem iQ.mp {h0 h:Heap} {a bm i off:Nat} {u:aS} {m:cu} {fs:List bL} {f:bL} {M:bH} {B:List Nat} (v:iQ h0 h a bm i off u m fs f M B) :
  rd h a 0=some (.pointer (some ⟨i,off,none⟩))/\rd h a 11=some (.pointer (some ⟨bm,0,none⟩))/\(∃ c,rd h bm 1=some (.slice (some ⟨i,0,none⟩) (fs.length+1) c)) /\
   ∃ p c q d,cZ h0 [.slice p u.aq.length c,.slice q u.methods.length d] u/\rd h a 9=some (.slice p u.aq.length c)/\rd h a 10=some (.slice q u.methods.length d)/\dQ h a 9 2=some [.slice p u.aq.length c,.slice q u.methods.length d] /\
    ∃ g e,rd h a 6=some (.slice g m.code.length e)/\Row 3 xJ h0 (.slice g m.code.length e) m.code:=by
 obtain⟨P,R,⟨X,o,x⟩,⟨Y,us,ts,b,j,w⟩,W⟩:=v;obtain⟨p,s,q,d,rfl,Q,V,S,T⟩:=j.form;obtain⟨p1,D,g,e,p3,E,p4,F,rfl,G,H,I,J,K,t,L,N,y,z,A,C⟩:=w.form;exact⟨bF b rfl,bF b rfl,⟨o,x⟩,p,s,q,d,j,bF b rfl,bF b rfl,bK b 2 9 (by simp[Qu]),g,e,bF b rfl,t⟩
theorem xO (h0 h:Heap) (p bm y off:Nat) (u:aS) (m:cu) (fs:List bL) (f:bL) (M:bH) (B:List Nat) (x:Vl) (g:Nat) (b:List Value) (j:Int->Bool) (q:iQ h0 h p bm y off u m fs f M B)
  (s:(g=192/\∃ e z,b=[e,z])\/(g=195/\∃ e,b=[e])\/(g=180/\b=[]))
  (E:0<=x.n/\x.n<=M.objs.length) (G:M.objs.length<=1000) (D:0 < x.n->Pure prog g (.int .i64 (aK M.objs x.n).cls::b) h (.bool (j (aK M.objs x.n).cls))) :
  cF prog 179 [.pointer (some ⟨p,0,none⟩),.agg #[.bool x.ref,.int .i64 x.n],.func (.func g) #[] ⟨b⟩] h λo h'=>h'=h/\match o with
   | .ret v=>0 < x.n/\j (aK M.objs x.n).cls=true/\∃ d c,rd h bm 0=some (.slice (some ⟨d,0,none⟩) M.objs.length c)/\v=.pointer (some ⟨d,0+(x.n-1).toNat*2,none⟩)
   | .jj c=>(0 < x.n/\j (aK M.objs x.n).cls=false/\c=gY 0)\/(x.n=0/\c=gY 2):=by
 obtain⟨I,w,_,_⟩:=q.mp;by_cases a:0 < x.n
 ·have C:=q.gZ a E.2;obtain⟨d,c,v,F,i,t,H,_,_⟩:=C;have A:=D a;rcases s with ⟨rfl,d1,d2,rfl⟩|⟨rfl,d1,rfl⟩|⟨rfl,rfl⟩;all_goals
   refine outs aB func179 LI Kb rfl ?_;conv=>whnf
   refine eR a ?_;conv=>whnf
   repeat' ((first|refine ld w ?_|refine ld i ?_|refine ld t ?_|refine ay ?_|refine av ?_|refine ptr ?_)<;>conv=>whnf)
   refine aO A ?_;conv=>whnf
   apply cq<;>intro k;all_goals conv=>whnf
   ·exact⟨rfl,.inl ⟨a,k,rfl⟩⟩
   refine bD ?_;conv=>whnf
   repeat' ((first|refine ld w ?_|refine ld i ?_|refine ld t ?_|refine ay ?_|refine av ?_|refine ptr ?_)<;>conv=>whnf)
   exact⟨rfl,a,k,d,c,i,rfl⟩
 rcases s with ⟨rfl,d1,d2,rfl⟩|⟨rfl,d1,rfl⟩|⟨rfl,rfl⟩;all_goals
  refine outs aB func179 LI Kb rfl ?_;conv=>whnf
  refine cx a ?_;conv=>whnf
  refine bZ ?_;conv=>whnf
  exact⟨rfl,.inr ⟨O,rfl⟩⟩
theorem Bp (h:Heap) (a b d:Nat) (p:Option Addr) (n e:Nat) (cs:List dH) (c k:Int) (i:rd h a 0=some (.pointer (some ⟨d,0,none⟩))) (j:rd h b 0=some (.int .i64 k)) (m:rd h d 9=some (.slice p n e))
  (g:eD h (.slice p n e) cs) (ok:cn cs) (f:c < cs.length) :
  Pure prog 192 [.int .i64 c,.pointer (some ⟨a,0,none⟩),.pointer (some ⟨b,0,none⟩)] h (.bool (up cs c k)):=by
 refine fD aB func192 SR U rfl ?_;conv=>whnf
 repeat' ((first|refine ld i ?_|refine ld j ?_|refine ld m ?_|refine ay ?_|refine av ?_|refine ptr ?_)<;>conv=>whnf)
 refine aO (sX _ _ _ _ _ _ _ g ok f) ?_;conv=>whnf
 exact⟨rfl,rfl⟩
theorem ot (h0 h:Heap) (a bm p off:Nat) (u:aS) (m:cu) (fs:List bL) (f:bL) (M:bH) (B:List Nat) (x:Vl) (k:Int) (C:iQ h0 h a bm p off u m fs f M B) (ok:cn u.aq)
  (I:0<=x.n/\x.n<=M.objs.length) (F:M.objs.length<=1000) (E:0 < x.n->(aK M.objs x.n).cls < u.aq.length) :
  cF prog 172 [.pointer (some ⟨a,0,none⟩),.agg #[.bool x.ref,.int .i64 x.n],.int .i64 k] h λo h'=>h.le h'/\match o with
   | .ret v=>0 < x.n/\up u.aq (aK M.objs x.n).cls k=true/\∃ q c,rd h' bm 0=some (.slice (some ⟨q,0,none⟩) M.objs.length c)/\v=.pointer (some ⟨q,0+(x.n-1).toNat*2,none⟩)
   | .jj c=>(0 < x.n/\up u.aq (aK M.objs x.n).cls k=false/\c=gY 0)\/(x.n=0/\c=gY 2):=by
 refine outs aB func172 SA U rfl ?_;conv=>whnf
 refine new (λb D=>?_);conv=>whnf
 refine new (λd t=>?_);have J:=Heap.aR (Heap.le_refl h) D (o:=.cells [Value.pointer (some ⟨a,0,none⟩)].toArray 125);have K:=Heap.aR (Heap.le_refl _) t (o:=.cells [Value.int .i64 k].toArray 3);have L:b≠d:=by rintro rfl;simp[Heap.set]at t
 have j:=Heap.le_trans J K;have y:rd ((h.set b (.cells [Value.pointer (some ⟨a,0,none⟩)].toArray 125)).set d (.cells [Value.int .i64 k].toArray 3)) b 0=some (.pointer (some ⟨a,0,none⟩)):=by
  rw[kq L,jI];rfl
 have N:rd ((h.set b (.cells [Value.pointer (some ⟨a,0,none⟩)].toArray 125)).set d (.cells [Value.int .i64 k].toArray 3)) d 0=some (.int .i64 k):=by
  rw[jI];rfl
 have g:=C.mono j;obtain⟨_,_,_,V,R,X,S,H,P,_,_,_⟩:=g.mp;have i:=(H.le g.ma.le).form;obtain⟨W,Q,Y,T,w,i,_⟩:=i;simp only[List.cons.injEq,Value.slice.injEq,true_and,and_true]at w;obtain⟨⟨rfl,rfl⟩,_⟩:=w;conv=>whnf
 generalize (h.set b (.cells [Value.pointer (some ⟨a,0,none⟩)].toArray 125)).set d (.cells [Value.int .i64 k].toArray 3)=s at *;refine ld y ?_;conv=>whnf
 refine cW (xO h0 s a bm p off u m fs f M B x _ _ (λc=>up u.aq c k) g (.inl ⟨rfl,_,_,rfl⟩) I F (λG=>Bp s b d a _ _ _ _ _ _ y N P i ok (E G))) ?_ ?_
 ·rintro v h' ⟨rfl,e,z,A⟩;conv=>whnf
  exact⟨j,e,z,A⟩
 rintro c h' ⟨rfl,e⟩;exact⟨j,e⟩
theorem Bq (h:Heap) (a:Nat) (c k:Int) (b:rd h a 0=some (.int .i64 k)) :
  Pure prog 195 [.int .i64 c,.pointer (some ⟨a,0,none⟩)] h (.bool (decide (c=if k=0 then -1 else -2))):=by
 refine fD aB func195 SV U rfl ?_;conv=>whnf
 refine ld b ?_;conv=>whnf
 refine ax (mm _ _) ?_;conv=>whnf
 exact⟨rfl,rfl⟩
theorem zn (h:Heap) (c:Int):Pure prog 180 [.int .i64 c] h (.bool (decide (c < 0))):=by
 refine fD aB func180 SH U rfl ?_;conv=>whnf
 exact⟨rfl,rfl⟩
def mw (k:Int):Int:=if k=0 then -1 else -2
theorem wA (h0 h:Heap) (p bm w off:Nat) (u:aS) (m:cu) (fs:List bL) (f:bL) (M:bH) (B:List Nat) (x:Vl) (k n:Int) (H:iQ h0 h p bm w off u m fs f M B)
  (C:0<=x.n/\x.n<=M.objs.length) (K:M.objs.length<=1000) :
  cF prog 181 [.pointer (some ⟨p,0,none⟩),.agg #[.bool x.ref,.int .i64 x.n],.int .i64 k,.int .i64 n] h λo h'=>h.le h'/\match o with
   | .ret v=>0 < x.n/\(aK M.objs x.n).cls=mw k/\0<=n/\n < (aK M.objs x.n).bp.length/\∃ g c i q N,rd h' bm 0=some (.slice (some ⟨g,0,none⟩) M.objs.length c)/\rd h' g (0+(x.n-1).toNat*2+1)=some (.slice (some ⟨i,0,none⟩) N q)/\v=.pointer (some ⟨i,0+n.toNat*2,none⟩)
   | .jj c=>(0 < x.n/\(aK M.objs x.n).cls≠mw k/\c=gY 0)\/(x.n=0/\c=gY 2)\/(0 < x.n/\(aK M.objs x.n).cls=mw k/\¬(0<=n/\n < (aK M.objs x.n).bp.length)/\c=gY 3):=by
 refine outs aB func181 SI U rfl ?_;conv=>whnf
 refine new (λe I=>?_);have d:=Heap.aR (Heap.le_refl h) I (o:=.cells [Value.int .i64 k].toArray 3);have Q:rd (h.set e (.cells [Value.int .i64 k].toArray 3)) e 0=some (.int .i64 k):=by
  rw[jI];rfl
 have z:=H.mono d;conv=>whnf
 generalize h.set e (.cells [Value.int .i64 k].toArray 3)=y at *;refine cW (xO h0 y p bm w off u m fs f M B x _ _ (λc=>decide (c=mw k)) z (.inr (.inl ⟨rfl,_,rfl⟩)) C K (λX=>Bq y e _ k Q)) ?_ ?_
 ·rintro v h' ⟨rfl,a,b,g,c,j,rfl⟩;have b:=of_decide_eq_true b;have L:=z.gZ a C.2;obtain⟨S,T,v,R,s,s2,t,D,_⟩:=L;rw[j]at s;simp only[Option.some.injEq,Value.slice.injEq,Addr.mk.injEq,and_true,true_and]at s;obtain⟨rfl,rfl⟩:=s;have P:=D;obtain⟨Y,q,rfl,V⟩:=D.form;have W:=dP bM (aK M.objs x.n).bp;conv=>whnf
  apply aD<;>intro F;all_goals conv=>whnf
  ·exact⟨d,.inr (.inr ⟨a,b,O,rfl⟩)⟩
  refine ld t ?_;conv=>whnf
  apply aD<;>intro G;all_goals conv=>whnf
  ·exact⟨d,.inr (.inr ⟨a,b,O,rfl⟩)⟩
  have J:n.toNat < ((aK M.objs x.n).bp.map bM).length:=by omega
  have E:=P.nth J;obtain⟨i,A,_,_⟩:=E;refine ld t ?_;conv=>whnf
  refine ay ?_;conv=>whnf
  refine aP A ?_;conv=>whnf
  subst A;exact⟨d,a,b,O,O,g,c,i,q,_,j,t,rfl⟩
 rintro c h' ⟨rfl,a⟩;refine⟨d,?_⟩;rcases a with ⟨a,b,j⟩|a
 ·exact .inl ⟨a,of_decide_eq_false b,j⟩
 exact .inr (.inl a)
theorem IE (n:Int) (h:Heap) (a:n=0\/n=1\/n=2\/n=3\/n=4\/n=5\/n=6):Pure prog 201 [.int .u64 1,.int .u64 n] h (.tuple #[.int .u64 0,.int .u64 n]):=by
 rcases a with rfl|rfl|rfl|rfl|rfl|rfl|rfl;all_goals
  refine fD aB func201 S0 U rfl ?_;conv=>whnf
  repeat' ((first|refine m7 ?_|refine fI rfl rfl (λw=>rfl) (λw=>rfl) ?_)<;>conv=>whnf)
  exact⟨rfl,rfl⟩
theorem DL (n:Int) (h:Heap) (a:n=0\/n=1\/n=2\/n=3\/n=4\/n=5\/n=6):Pure prog 194 [.int .u64 1,.int .u64 n] h (.tuple #[.int .u64 0,.int .u64 n]):=by
 refine fD aB func194 SU U rfl ?_;conv=>whnf
 refine ax (IE n h a) ?_;conv=>whnf
 exact⟨rfl,rfl⟩
theorem OH {k:IntKind} {x r:Int} {K:Int->Prop} (h:k.wrap x=r) (a:K r):Ar k x K:=m7 (by rw[h];exact a)
theorem wrap_u64 {x:Int} (h0:0<=x) (a:x<=1000000):IntKind.u64.wrap x=x:=by
 simp[IntKind.wrap,IntKind.bits,IntKind.signed];omega
theorem xP (a b:Nat):Nat.min a b=min a b:=rfl
theorem FA (t n:Int) (v:Value) (h:Heap) (C:CK h v [t]) (N:0<=n/\n<=6) :
  bI prog 177 [v,.int .i64 n] h λv h'=>h.le h'/\∃ B,dI h' v (List.replicate n.toNat t) B/\∀ b∈B,h b=none:=by
 obtain⟨_,_,H,I,rfl,J,D⟩:=C;have g:∃ b d,H=some ⟨b,d,none⟩/\dQ h b d 1=some [.int .i64 t]:=by
  rcases D with c|⟨b,d,a,e⟩
  ·simp at c
  exact⟨b,d,a,by simpa [bP]using e⟩
 obtain⟨o,G,rfl,g⟩:=g;refine bT aB func177 SF U rfl ?_;conv=>whnf
 refine bD ?_;conv=>whnf
 refine OH (r:=1) (wrap_u64 Z Z) ?_;conv=>whnf
 refine OH (wrap_u64 O O) ?_;conv=>whnf
 refine ax (DL n h O) ?_;conv=>whnf
 refine bD ?_;conv=>whnf
 refine av ?_;conv=>whnf
 refine ob ⟨rfl,O,by show(_:Int)*((8:Nat):Int)<=_;omega,O⟩ ?_;conv=>whnf
 refine new (λb f=>?_);conv=>whnf
 have hle:h.le (h.set b (.cells (List.replicate n.toNat [Value.int .i64 0]).flatten.toArray 3)):=Heap.aR (Heap.le_refl h) f;have s:(h.set b (.cells (List.replicate n.toNat [Value.int .i64 0]).flatten.toArray 3)) b=some (.cells (List.replicate n.toNat (Value.int .i64 0)).toArray 3 (0,0)):=by
  rw[List.flatten_replicate_singleton];simp[Heap.set]
 refine A3 (vs:=List.replicate (min 1 n.toNat) (.int .i64 t)) aB rfl rfl rfl rfl rfl (.inr ⟨o,G,rfl,?_⟩) s (by simp;omega) ?_ ?_
 ·by_cases q:n=0
  ·subst q;rfl
  have a:Nat.min (List.map bP [t]).length n.toNat=1:=by show min 1 n.toNat=1;omega
  have e:min 1 n.toNat=1:=by omega
  rw[a,e];exact bG hle g
 ·have:=di (List.replicate (min 1 n.toNat) t);rwa [List.map_replicate]at this
 have w:∀ k:Nat,k<=n.toNat->∀ m,m<=k->k+m<=n.toNat->dU (List.replicate k (Value.int .i64 t)++List.replicate (n.toNat-k) (Value.int .i64 0)) k (List.replicate m (.int .i64 t))=List.replicate (k+m) (Value.int .i64 t)++List.replicate (n.toNat-(k+m)) (Value.int .i64 0):=by
  intro k x m M L;have:=fK (List.replicate m (Value.int .i64 t)) (List.replicate k (Value.int .i64 t)) (List.replicate (n.toNat-k) (Value.int .i64 0)) (by simp;omega);rw[List.length_replicate]at this;rw[this];simp only[List.length_replicate,List.drop_replicate,List.replicate_append_replicate];congr 2
  omega
 have u:dU (List.replicate n.toNat (Value.int .i64 0)) 0 (List.replicate (min 1 n.toNat) (.int .i64 t))=List.replicate (min 1 n.toNat) (Value.int .i64 t)++List.replicate (n.toNat-min 1 n.toNat) (Value.int .i64 0):=by
  have:=fK (List.replicate (min 1 n.toNat) (Value.int .i64 t)) [] (List.replicate n.toNat (Value.int .i64 0)) (by simp;omega);simpa [List.drop_replicate]using this
 rw[u,set_set];have z:((Nat.min (List.map bP [t]).length n.toNat:Nat):Int)=((min 1 n.toNat:Nat):Int):=by rw[xP];simp
 rw[z];conv=>whnf
 refine eu [7,8] [] (λk:Nat=>k<=n.toNat/\(0 < n->1<=k)) (λk=>n.toNat-k)
  (λk=>([.v (.slice (some ⟨b,0,none⟩) n.toNat n.toNat),.v (.int .i64 k)],[],h.set b (.cells (List.replicate k (Value.int .i64 t)++List.replicate (n.toNat-k) (Value.int .i64 0)).toArray 3))) (min 1 n.toNat) ⟨O,O⟩ rfl ?_
 rintro k ⟨x,K⟩;conv=>whnf
 apply aD<;>intro p;all_goals conv=>whnf
 ·have j:k < n.toNat:=by omega
  have i:(h.set b (.cells (List.replicate k (Value.int .i64 t)++List.replicate (n.toNat-k) (Value.int .i64 0)).toArray 3)) b=some (.cells (List.replicate k (Value.int .i64 t)++List.replicate (n.toNat-k) (Value.int .i64 0)).toArray 3 (0,0)):=by simp[Heap.set]
  refine ay ?_;conv=>whnf
  refine sub (λF E P=>?_);have A:F=some ⟨b,k,none⟩:=by rw[E O];simp[js]
  subst A;conv=>whnf
  refine ay ?_;conv=>whnf
  refine A3 (vs:=List.replicate (min k (n.toNat-k)) (.int .i64 t)) aB rfl rfl rfl rfl rfl (.inr ⟨b,0,rfl,?_⟩) i (by simp;omega) ?_ ?_
  ·have a:Nat.min (k:Int).toNat (n.toNat-(k:Int).toNat)=min k (n.toNat-k):=by rw[xP];simp
   rw[a];show dQ _ b 0 (min k (n.toNat-k)*1)=_;rw[Nat.mul_one,bK i _ _ (by simp;omega),List.drop_zero,List.take_append_of_le_length (by simp;omega),List.take_replicate];congr 2;omega
  ·have:=di (List.replicate (min k (n.toNat-k)) t);rwa [List.map_replicate]at this
  rw[w k O _ O O,set_set];have y:((Nat.min (k:Int).toNat (n.toNat-(k:Int).toNat):Nat):Int)=((min k (n.toNat-k):Nat):Int):=by rw[xP,Int.toNat_natCast]
  rw[y];conv=>whnf
  refine av ?_;conv=>whnf
  refine cT (k+min k (n.toNat-k)) ⟨O,O⟩ O rfl
 have j:k=n.toNat:=by omega
 subst j;refine⟨Heap.aR (Heap.le_refl h) f,[b],gz (t:=3) (λQ c=>by simp only[List.map_replicate]at c;rw[List.eq_of_mem_replicate c];rfl) Z ?_,by simpa using f⟩;simp[Heap.set,dy,List.map_replicate,bP]
theorem iQ.grow {h0 h:Heap} {w bm W off:Nat} {u:aS} {m:cu} {fs:List bL} {f:bL} {M:bH} {B:List Nat} (hS:iQ h0 h w bm W off u m fs f M B) (hl:M.objs.length<=1000) :
  ∃ t p c q vs,h bm=some (.cells (aE (.slice p M.objs.length c) q vs M).toArray t (0,0)) /\
   ∀ {bytes:Nat} {zero:List Value} {el:TypeId} {V:Nat} (a:Ob) (v:List Nat) (y:List Value) (Q:Value->Heap->Prop),jt h y a v->Nd v->(∀ b∈v,b ∉ bm::B/\b≠w/\h0 b=none)->V=1->y.length=2->dD y=true->zero.length=2->bytes<=1000 ->
    (∀ z x E,E bm=h bm->E w=h w->h0.le E->(∃ B',iQ h0 (E.set bm (.cells (aE (.slice z (M.objs.length+1) x) q vs M).toArray t (0,0))) w bm W off u m fs f {M with objs:=M.objs++[a]} B' /\
     Ev h (E.set bm (.cells (aE (.slice z (M.objs.length+1) x) q vs M).toArray t (0,0))) ((bm::B)++v) (bm::B'))->Q (.slice z (M.objs.length+1) x) E)->App bytes 2 zero el h p M.objs.length c V y Q:=by
 obtain⟨I,hf,⟨oK,c0,hr⟩,⟨ms,us,ts,T,hu,hm⟩,N⟩:=hS;have nd:=I.nd;have mW:=I.in;have hle:=I.le;have S:=I.fr;obtain⟨t,vo,q,vs,s,j,o,K,h1,E,h3,rfl,ju⟩:=I.whole;obtain⟨p,c,rfl,hc⟩:=h1.form;refine⟨t,p,c,q,vs,by simpa using K,?_⟩;intro bytes zero el V a v y Q k1 k2 k3 k4 k5 k6 k7 k8 k9;have G:∀ b∈v,b ∉ s/\b ∉ j/\b ∉ o/\b≠bm/\b≠w:=by
  intro b e;have:=k3 b e;simp at this;grind
 have hB:∀ b∈s,b ∉ j/\b ∉ o/\b≠bm/\b≠w:=by
  intro b e;have hp:=List.count_pos_iff.2 e;have F:=nd b;simp only[List.count_append,List.count_cons]at F;refine⟨λd=>?_,λd=>?_,?_,?_⟩
  ·have:=List.count_pos_iff.2 d;omega
  ·have:=List.count_pos_iff.2 d;omega
  ·rintro rfl;simp at F;omega
  rintro rfl;exact N (by simp[e])
 have L:bm ∉ s++j++o:=by
  intro d;have:=List.count_pos_iff.2 d;have F:=nd bm;simp only[List.count_cons,beq_self_eq_true,if_true]at F;omega
 have Br:Nd (s++j++o):=nd.less λa=>by simp only[List.count_cons];omega
 have Bu:Nd (s++v):=by
  have:=Nd.swap (A:=s) (X:=j++o) (X':=v) (Br.perm λa=>by simp only[List.count_append];omega) k2 (λb e=>.inr (G b e).1);exact this
 refine kZ gP vH (h0:=h0) h1 k1 Bu (λb e=>?_) hle k4 k5 k6 k7 (by have:=Nat.mul_le_mul (show M.objs.length+1<=1001 by omega) k8;omega) O ?_
 ·rcases List.mem_append.1 e with e|e
  ·exact S b (by simp[e])
  exact(k3 b e).2.2
 intro v' D C g1 R g3 g4 J;obtain⟨z,x,rfl,_⟩:=R.form;have hlen:(M.objs++[a]).length=M.objs.length+1:=by simp
 rw[hlen]at R ⊢;have same:∀ b,b ∉ s->b ∉ v->h b≠none->D b=h b:=λb n1 n2 n3=>J.qv b n3 (by simp[n1,n2]);have e1:D bm=h bm:=same bm (λd=>L (by simp[d])) (λd=>(G _ d).2.2.2.1 rfl) (by rw[K];simp);have Y:D w=h w:=same w (λd=>N (by simp[d])) (λd=>(G _ d).2.2.2.2 rfl) (by rw[T];simp);refine k9 z x D e1 Y g1 ?_;have Kk:bm ∉ C:=by
  intro d;rcases J.new bm d with g|g
  ·rcases List.mem_append.1 g with g|g
   ·exact L (by simp[g])
   exact(G _ g).2.2.2.1 rfl
  rw[K]at g;cases g
 have CL:∀ P:List Nat,(∀ b∈P,b≠bm/\b ∉ s/\b ∉ v)->cD h (D.set bm (.cells (aE (.slice z (M.objs.length+1) x) q vs M).toArray t (0,0))) P:=by
  intro P hC b e aa H;have:=hC b e;simp only[Heap.set,this.1,if_false];rw[same b this.2.1 this.2.2 (by rw[H];simp)];exact H
 have d2:∀ b∈j,b≠bm/\b ∉ s/\b ∉ v:=λb e=>⟨λd=>L (by simp[<-d,e]),λd=>(hB b d).1 e,λd=>(G b d).2.1 e⟩
 have d3:∀ b∈o,b≠bm/\b ∉ s/\b ∉ v:=λb e=>⟨λd=>L (by simp[<-d,e]),λd=>(hB b d).2.1 e,λd=>(G b d).2.2.1 e⟩
 have CJ:Ev h (D.set bm (.cells (aE (.slice z (M.objs.length+1) x) q vs M).toArray t (0,0))) ((bm::(s++j++o))++v) (bm::(C++j++o)):=by
  refine⟨λb e F=>?_,λb e=>?_⟩
  ·have:b≠bm:=λd=>F (by simp[d]);simp only[Heap.set,this,if_false];exact same b (λd=>F (by simp[d])) (λd=>F (by simp[d])) e
  have:b∈C\/b∈bm::(j++o):=by simp at e ⊢;grind
  rcases this with d|d
  ·exact(J.new b d).imp (λg=>by simp at g ⊢;grind) id
  exact .inl (by simp at d ⊢;grind)
 have Bv:Nd (bm::(C++j++o)):=by
  have:=Nd.swap (A:=bm::(j++o)) (X:=s) (X':=C) (nd.perm λa=>by simp only[List.count_append,List.count_cons];omega) g3 (λb e=>?_)
  ·exact this.perm λa=>by simp only[List.count_append,List.count_cons];omega
  rcases J.new b e with d|d
  ·rcases List.mem_append.1 d with d|d
   ·exact .inl d
   have:=G b d;exact .inr (by simp;grind)
  refine .inr λg=>?_;obtain⟨aa,H⟩:=mW b (by simp at g ⊢;grind);rw[d]at H;cases H
 have OC:fo h0 (D.set bm (.cells (aE (.slice z (M.objs.length+1) x) q vs M).toArray t (0,0))) bm [] [] {M with objs:=M.objs++[a]} (C++j++o):=by
  have Ti:h0.le (D.set bm (.cells (aE (.slice z (M.objs.length+1) x) q vs M).toArray t (0,0))):=Heap.aR g1 (S bm Z);refine⟨Ti,⟨aE (.slice z (M.objs.length+1) x) q vs M,t,by simp[Heap.set],_,q,vs,C,j,o,rfl,?_,?_,?_,rfl⟩,Bv,?_⟩
  ·refine R.aJ gP λb e aa H=>?_;have:b≠bm:=by rintro rfl;exact Kk e
   simp only[Heap.set,this,if_false];exact H
  ·exact E.aJ jL (CL j d2)
  ·exact h3.aJ (CL o d3)
  intro b e;have:b∈C\/b∈bm::(s++j++o):=by simp at e ⊢;grind
  rcases this with d|d
  ·exact g4 b d
  exact S b d
 refine⟨C++j++o,⟨OC,hf,⟨oK,c0,?_⟩,⟨ms,us,ts,?_,hu,hm⟩,?_⟩,CJ⟩
 ·have e3:rd h bm 1=some q:=bA K (i:=1) Z rfl;rw[hr]at e3;have e4:rd (D.set bm (.cells (aE (.slice z (M.objs.length+1) x) q vs M).toArray t (0,0))) bm 1=some q:=by rw[jI];rfl
  rw[e4,<-e3]
 ·have:w≠bm:=λd=>N (by simp[d]);simp only[Heap.set,this,if_false];rw[Y];exact T
 intro d;rcases CJ.new w d with g|g
 ·rcases List.mem_append.1 g with g|g
  ·exact N g
  exact(G _ g).2.2.2.2 rfl
 rw[T]at g;cases g
theorem kr (n:Int) (h:Heap):Pure prog 99 [.int .i64 n] h (.agg #[.bool true,.int .i64 n]):=by
 refine fD aB func99 ZG U rfl ?_;conv=>whnf
 exact⟨rfl,rfl⟩
def nothing (t:Int):Vl:=⟨!decide (t=1),0⟩
theorem CM (h0 h:Heap) (a bm D off:Nat) (u:aS) (m:cu) (fs:List bL) (f:bL) (M:bH) (B:List Nat) (k:Int) (types:List Int) (vt:Value) (L:List Nat) (v:iQ h0 h a bm D off u m fs f M B)
  (X:dI h vt types L) (ZS:types.length<=1000) (hl:M.objs.length<=1000) :
  cF prog 175 [.pointer (some ⟨a,0,none⟩),.int .i64 k,vt] h λo h'=>match o with
   | .ret _=>f.stack.length < 4/\∃ B',iQ h0 h' a bm D off u m fs {f with stack:=f.stack++[⟨true,M.objs.length+1⟩]} {M with objs:=M.objs++[⟨k,types.map nothing⟩],au:=fs++[{f with stack:=f.stack++[⟨true,M.objs.length+1⟩]}]} B'/\Ev h h' (bm::B) (bm::B')
   | .jj c=>4<=f.stack.length/\c=gY 0/\Pn h0 bm h':=by
 obtain⟨pt,P,rfl,_⟩:=X.form;have LN:=dP bP types;have mW:=v.ma.in;refine outs aB func175 SD U rfl ?_;conv=>whnf
 refine eu [0,1,6,9,10,11] [] (λs:Nat × Heap × Option Addr × Nat × List Nat=>s.1<=types.length/\h.le s.2.1/\bR s.2.1 (.slice s.2.2.1 s.1 s.2.2.2.1) ((types.take s.1).map nothing) s.2.2.2.2/\∀ b∈s.2.2.2.2,h b=none) (λs=>types.length-s.1)
  (λs=>([.v (.pointer (some ⟨a,0,none⟩)),.v (.int .i64 k),.v (.slice s.2.2.1 s.1 s.2.2.2.1),.v (.slice pt (types.map bP).length P),.v (.int .i64 (types.map bP).length),.v (.int .i64 s.1)],[],s.2.1))
  (0,h,none,0,[]) ⟨O,Heap.le_refl h,⟨Z,.inl ⟨rfl,Z,rfl⟩⟩,Z⟩ rfl ?_
 rintro⟨i,G,ae,c,C⟩ ⟨hi,j,p,y⟩;simp only at hi j p y ⊢;conv=>whnf
 apply aD<;>intro ad;all_goals conv=>whnf
 ·have V:i < types.length:=by omega
  have ab:=(show dI G (.slice pt (types.map bP).length P) types L from X.aJ (cD.of_le j _)).nth (i:=i) (by simpa using V);obtain⟨b,hq,t,_⟩:=ab;rw[List.getElem_map]at t;have E:rd G b (0+i*1)=some (.int .i64 types[i]):=by simpa using aM t (i:=0) rfl
  refine ay ?_;conv=>whnf
  refine aP hq ?_;conv=>whnf
  refine ld E ?_;conv=>whnf
  refine ax (zk _ _) ?_;conv=>whnf
  have Cy:((types.take i).map nothing).length=i:=by simp;omega
  refine cX (h0:=h) (ys:=[bM (nothing types[i])]) p y j rfl rfl (by simp[bM]) rfl rfl (by simp;omega) (by simp;omega) ?_;intro v' g q g1 g2 g3 g4 g5;have F:bR g v' ((types.take (i+1)).map nothing) q:=by
   unfold bR;rw[<-List.take_append_getElem V,List.map_append,List.map_append];exact g2
  obtain⟨e,d,rfl,_⟩:=F.form;have xQ:(((types.take (i+1)).map nothing).map bM).length=i+1:=by simp;omega
  rw[xQ]at F ⊢;conv=>whnf
  refine av ?_;conv=>whnf
  exact cT (i+1,g,e,d,q) ⟨O,g1,F,g3⟩ (by simp only;omega) rfl
 have vU:i=types.length:=by omega
 subst vU;rw[List.take_length]at p;have R:=v.mono j;obtain⟨r1,K,_,_⟩:=R.mp;obtain⟨aa,Y,N,z,A,T,grow⟩:=R.grow hl;have r3:rd G bm 0=some (.slice Y M.objs.length N):=bF T rfl;have pF:∀ b∈C,b ∉ bm::B/\b≠a/\h0 b=none:=by
  intro b H;have w:=y b H;refine⟨λhx=>?_,?_,?_⟩
  ·obtain⟨o,W⟩:=mW b hx;rw[w]at W;cases W
  ·rintro rfl;have:=v.mp.1;unfold rd at this;rw[w]at this;cases this
  cases hh:h0 b with
  | none=>rfl
  | some o=>rw[v.ma.le b o hh]at w;cases w
 repeat' ((first|exact trivial|refine ld K ?_|refine ld r3 ?_|apply And.intro)<;>conv=>whnf)
 all_goals
  refine grow ⟨k,types.map nothing⟩ C _ _ ⟨_,rfl,p⟩ p.nd pF rfl rfl rfl rfl Z ?_;rintro e d g t E e3 ⟨B',S,vV⟩;have LQ:rd g a 11=some (.pointer (some ⟨bm,0,none⟩)):=by unfold rd at K ⊢;rw[E];exact K
  have oU:=t.trans T;conv=>whnf
  (try refine ld LQ ?_)
  conv=>whnf
  have qC:dU (aE (.slice Y M.objs.length N) z A M) 0 [.slice e (M.objs.length+1) d]=aE (.slice e (M.objs.length+1) d) z A M:=rfl;have q1:=S.mp.2.1;have q2:rd (g.set bm (.cells (aE (.slice e (M.objs.length+1) d) z A M).toArray aa (0,0))) bm 0=some (.slice e (M.objs.length+1) d):=by rw[jI];rfl
  refine st oU (by simp[aE]) ?_;rw[qC];generalize g.set bm (.cells (aE (.slice e (M.objs.length+1) d) z A M).toArray aa (0,0))=Q at *;conv=>whnf
  refine ld q1 ?_;conv=>whnf
  refine ld q2 ?_;conv=>whnf
  refine ax (kr _ _) ?_;conv=>whnf
  have ev:Ev h Q (bm::B) (bm::B') :=
   Ev.trans (Ev.of_le j ((bm::B)++C) (λb H=>(List.mem_append.1 H).imp id (y b))) vV
  refine cW (mq h0 Q a bm D off u m fs f _ B' ⟨true,((M.objs.length+1:Nat):Int)⟩ S) ?_ ?_
  ·rintro af h' ⟨I,q,x,J⟩;conv=>whnf
   have hc:(⟨true,((M.objs.length+1:Nat):Int)⟩:Vl)=⟨true,M.objs.length+1⟩:=by simp
   rw[hc]at x;exact⟨I,q,x,ev.trans J⟩
  rintro c h' ⟨I,x,J⟩;exact⟨I,x,J⟩
def cE:Vl:=⟨false,0⟩
abbrev tw:=Except Int (List Ob × bL)
def cM (objs:List Ob) (f:bL) (v:Vl):tw:=if f.stack.length < 4 then .ok (objs,{f with stack:=f.stack++[v]})else .error 0
def nq (k:Int) (types:List Int) (objs:List Ob) (f:bL):tw:=cM (objs++[⟨k,types.map nothing⟩]) f ⟨true,objs.length+1⟩
def dJ (objs:List Ob) (n:Int) (a:Bool):Except Int Ob:=if 0 < n/\a=false then .error 0 else if n=0 then .error 2 else .ok (aK objs n)
def putAt (l:List Vl) (i:Int) (v:Vl):List Vl:=l.set i.toNat v
def fA (objs:List Ob) (n:Int) (bp:List Vl):List Ob:=objs.set (n-1).toNat {aK objs n with bp:=bp}
def mz (objs:List Ob) (x:Vl) (k n:Int):Except Int Ob :=
 match dJ objs x.n (decide ((aK objs x.n).cls=mw k))with
 | .error e=>.error e
 | .ok o=>if 0<=n/\n < o.bp.length then .ok o else .error 3
def bt (u:aS) (x:dc) (c:List Vl) (objs:List Ob) (f:bL):tw :=
 let a:=c.getD 0 cE
 let b:=c.getD 1 cE
 let d:=c.getD 2 cE
 if x.kind=12 then nq x.a (cP u.aq x.a) objs f
 else if x.kind=13 then (if 0<=a.n/\a.n<=6 then nq (mw x.a) (List.replicate a.n.toNat (if x.a=0 then 1 else 8)) objs f else .error 4)
 else if x.kind=14 then (match dJ objs a.n (decide ((aK objs a.n).cls < 0))with
  | .error e=>.error e
  | .ok o=>cM objs f ⟨false,o.bp.length⟩)
 else if x.kind=15 then (match mz objs a x.a b.n with
  | .error e=>.error e
  | .ok o=>cM objs f (o.bp.getD b.n.toNat cE))
 else if x.kind=16 then (match mz objs a x.a b.n with
  | .error e=>.error e
  | .ok o=>.ok (fA objs a.n (putAt o.bp b.n d),f))
 else if x.kind=17 then (match dJ objs a.n (up u.aq (aK objs a.n).cls x.a)with
  | .error e=>.error e
  | .ok o=>cM objs f (o.bp.getD x.b.toNat cE))
 else if x.kind=18 then (match dJ objs a.n (up u.aq (aK objs a.n).cls x.a)with
  | .error e=>.error e
  | .ok o=>.ok (fA objs a.n (putAt o.bp x.b b),f))
 else if x.kind=19 then (if 0 < a.n/\gU u.aq (typeOf (aK objs a.n).cls) (8+x.a)=false then .error 5 else cM objs f a)
 else .ok (objs,f)
theorem fe {objs:List Ob} {n:Int} {a:Bool} (c:0 < n) (b:a=true):dJ objs n a=.ok (aK objs n):=by
 subst b;simp[dJ];omega
theorem eT {objs:List Ob} {n:Int} {a:Bool} (b:0 < n) (c:a=false):dJ objs n a=.error 0:=by
 subst c;simp[dJ,b]
theorem eU {objs:List Ob} {n:Int} {b:Bool} (a:n=0):dJ objs n b=.error 2:=by
 subst a;simp[dJ]
theorem xR {objs:List Ob} {x:Vl} {k n:Int} (a:0 < x.n) (b:(aK objs x.n).cls=mw k) (c:0<=n/\n < (aK objs x.n).bp.length):mz objs x k n=.ok (aK objs x.n):=by
 unfold mz;rw[fe a (by simp[b])];simp[c]
theorem uz {objs:List Ob} {x:Vl} {k n:Int} (a:0 < x.n) (b:(aK objs x.n).cls≠mw k):mz objs x k n=.error 0:=by
 unfold mz;rw[eT a (by simp[b])]
theorem uA {objs:List Ob} {x:Vl} {k n:Int} (a:x.n=0):mz objs x k n=.error 2:=by
 unfold mz;rw[eU a]
theorem pG {objs:List Ob} {x:Vl} {k n:Int} (a:0 < x.n) (b:(aK objs x.n).cls=mw k) (c:¬(0<=n/\n < (aK objs x.n).bp.length)):mz objs x k n=.error 3:=by
 unfold mz;rw[fe a (by simp[b])];simp only;rw[if_neg c]
theorem DM (h:Heap) (a n c:Nat) (k cls:Int) (b:rd h a (0+(k-1).toNat*2)=some (.int .i64 cls)) (e:0 < k/\k<=n) (f:n<=1000) (d : -2<=cls/\cls<=900) :
  Pure prog 183 [.slice (some ⟨a,0,none⟩) n c,.agg #[.bool true,.int .i64 k]] h (.int .i64 (typeOf cls)):=by
 refine fD aB func183 SK U rfl ?_;conv=>whnf
 refine bD ?_;conv=>whnf
 repeat' ((first|refine ld b ?_|refine ay ?_|refine av ?_|refine ptr ?_)<;>conv=>whnf)
 refine ax (DH _ _ O) ?_;conv=>whnf
 exact⟨rfl,rfl⟩
theorem jN {pre x x' post:List Value} {n:Nat} (b:n=pre.length) (a:x'.length=x.length):dU (pre++x++post) n x'=pre++x'++post:=by
 subst b;rw[List.append_assoc,fK x' pre (x++post) (by simp;omega),a,List.drop_left]
def mP (u:aS) (x:dc) (b:List Vl) (n:Nat):Prop :=
 (x.kind=13->∃ a,b=[a])/\(x.kind=14->∃ a,b=[a]/\a.ref=true)/\(x.kind=15->∃ a c,b=[a,c]/\a.ref=true)/\(x.kind=16->∃ a c d,b=[a,c,d]/\a.ref=true) /\
  (x.kind=17->∃ a,b=[a]/\a.ref=true)/\(x.kind=18->∃ a c,b=[a,c]/\a.ref=true)/\(x.kind=19->∃ a,b=[a]/\a.ref=true)/\∀ v∈b,v.ref=true->0<=v.n/\v.n<=n
def FC (u:aS) (objs:List Ob):Prop:=∀ o∈objs,(-2<=o.cls/\o.cls < u.aq.length)/\(0<=o.cls->o.bp.length=(cP u.aq o.cls).length)
theorem qD {cs:List dH} (ok:cn cs):∀(k:Nat) {a b:Int},a.toNat < k->a < cs.length->up cs a b=true->(cP cs b).length<=(cP cs a).length
 | 0,a,b,h,_,_=>by omega
 | k+1,a,b,h,hl,hu=>by
  by_cases c:0<=a
  ·rw[fR ok c hl]at hu;by_cases d:a=b
   ·subst d;exact Nat.le_refl _
   have f:=ok.bO c hl;simp only[d,decide_false,Bool.false_or]at hu;by_cases e:0 < a
   ·have:=qD ok k (a:=bC cs a) (b:=b) O O hu;rw[jB ok e hl,List.length_append];omega
   rw[ng O]at hu;cases hu
  rw[ng O]at hu;cases hu
theorem bW.put {h:Heap} {p:Option Addr} {n c:Nat} {l:List Vl} {B:List Nat} (a:bR h (.slice p n c) l B) {i:Nat} (e:i < l.length) :
  ∃ b pre x post t,p=some ⟨b,0,none⟩/\n=l.length/\h b=some (.cells (pre++x++post).toArray t (0,0))/\pre.length=i*2/\x=bM l[i]/\B=[b] /\
   ∀ h' v,h' b=some (.cells (pre++bM v++post).toArray t (0,0))->bR h' (.slice p n c) (l.set i v) B:=by
 have m:l.map bM=(l.take i).map bM++bM l[i]::(l.drop (i+1)).map bM:=by
  have:=congrArg (List.map bM) (qA l e);simpa only[List.map_append,List.map_cons]using this
 unfold bR at a;rw[m]at a;obtain⟨b,s,pre,post,t,d,g,o,u,f,q⟩:=a.at;simp only[Value.slice.injEq]at d;obtain⟨rfl,rfl,rfl⟩:=d;refine⟨b,pre,bM l[i],post,t,rfl,?_,g,?_,rfl,f,λh' v j=>?_⟩
 ·simp;omega
 ·rw[o];simp;omega
 have:=q h' (bM v) j rfl;unfold bR;rw[List.set_eq_take_append_cons_drop,if_pos e,List.map_append,List.map_cons];exact this
theorem cB (h:Heap) (b:Nat) (o:Obj):(h.set b o) b=some o:=by simp[Heap.set]
theorem dn {h:Heap} {cs:List Value} {t:TypeId} {K:Nat->Heap->Prop} (c:List Value) (e:cs=c) (f:∀ b a,h b=none->a=h.set b (.cells c.toArray t)->h.le a->a b=some (.cells c.toArray t (0,0))->K b a):EF h cs t K:=by
 subst e;exact new λb d=>f b _ d rfl (Heap.aR (Heap.le_refl h) d) (cB _ _ _)
def IF (h0 h:Heap) (f bm e off:Nat) (u:aS) (m:cu) (fs:List bL) (M:bH) (B:List Nat) (r:tw):Out->Heap->Prop:=λo b=>match o with
 | .ret _=>∃ d a,r=.ok (d,a)/\∃ c,iQ h0 b f bm e off u m fs a {M with objs:=d,au:=fs++[a]} c/\Ev h b (bm::B) (bm::c)
 | .jj g=>∃ k,r=.error k/\g=gY k/\Pn h0 bm b
theorem xS {h0 h e:Heap} {a bm b off:Nat} {u:aS} {m:cu} {fs:List bL} {f:bL} {M:bH} {B B1:List Nat} (x:Vl) (p:iQ h0 h a bm b off u m fs f M B) (o:Ev e h (bm::B1) (bm::B)) :
  cF prog 134 [.pointer (some ⟨a,0,none⟩),.agg #[.bool x.ref,.int .i64 x.n]] h (IF h0 e a bm b off u m fs M B1 (cM M.objs f x)):=by
 refine(mq h0 h a bm b off u m fs f M B x p).mono λq t g=>?_;cases q with
 | ret v =>
  obtain⟨i,j,c,d⟩:=g;exact⟨M.objs,{f with stack:=f.stack++[x]},by simp[cM,i],j,c,o.trans d⟩
 | jj s =>
  obtain⟨i,c,d⟩:=g;exact⟨0,by simp[cM];omega,c,d⟩
theorem bW.two {h:Heap} {p:Option Addr} {n c:Nat} {l:List Vl} {B:List Nat} (e:bR h (.slice p n c) l B) {i:Nat} (j:i < l.length):∃ b,p=some ⟨b,0,none⟩/\dQ h b (0+i*2) 2=some (bM l[i])/\rd h b (0+i*2+1)=some (.int .i64 l[i].n)/\B=[b]/\n=l.length:=by
 obtain⟨_,_,d,_⟩:=e.form;simp only[Value.slice.injEq]at d;obtain⟨b,f,a,g⟩:=e.nth (i:=i) (by simpa using j);rw[List.getElem_map]at a;exact⟨b,f,a,aM a (i:=1) rfl,g,by have:=d.2.1;simpa using this⟩
theorem bW.all {h:Heap} {p:Option Addr} {n c:Nat} {l:List Vl} {B:List Nat} (f:bR h (.slice p n c) l B) (o:0 < l.length):∃ b,p=some ⟨b,0,none⟩/\n=l.length/\∀ i (e:i < l.length),dQ h b (0+i*2) 2=some (bM l[i])/\rd h b (0+i*2+1)=some (.int .i64 l[i].n):=by
 obtain⟨b,d,_,_,s,m⟩:=f.two o;refine⟨b,d,m,λi e=>?_⟩;obtain⟨q,a,g,j,_⟩:=f.two e;rw[d]at a;simp only[Option.some.injEq,Addr.mk.injEq,and_true]at a;subst a;exact⟨g,j⟩
theorem iQ.at {h0 h:Heap} {i bm e off:Nat} {u:aS} {m:cu} {fs:List bL} {f:bL} {M:bH} {B:List Nat} (v:iQ h0 h i bm e off u m fs f M B) {n:Int} (s:0 < n) (t:n<=M.objs.length) {g c:Nat} (w:rd h bm 0=some (.slice (some ⟨g,0,none⟩) M.objs.length c)) :
  ∃ p k a Bi,rd h g (0+(n-1).toNat*2+1)=some (.slice p k a)/\bR h (.slice p k a) (aK M.objs n).bp Bi/\k=(aK M.objs n).bp.length /\
   ∀ h' o,bR h' (.slice p k a) o Bi->(∀ b,b ∉ Bi->h b≠none->h' b=h b)->∃ B',iQ h0 h' i bm e off u m fs f {M with objs:=fA M.objs n o } B'/\Ev h h' (bm::B) (bm::B'):=by
 obtain⟨A,a,E,Bi,d,D,z,j,y⟩:=v.gZ s t;rw[w]at d;simp only[Option.some.injEq,Value.slice.injEq,Addr.mk.injEq,and_true,true_and]at d;obtain⟨rfl,rfl⟩:=d;obtain⟨x,q,rfl,C⟩:=j.form;exact⟨x,_,q,Bi,z,j,Z,y⟩
theorem hD {l:List Ob} {n:Int} (b:0 < n) (c:n<=l.length):aK l n∈l:=by
 have a:(n-1).toNat < l.length:=by omega
 rw[qB a O];exact List.getElem_mem _
theorem jc {cs:List dH} {a b:Int} (h:up cs a b=true):0<=a:=by
 rcases Int.lt_or_le a 0 with c|c
 ·rw[ng c]at h;cases h
 exact c
theorem ox {l:List Vl} {i:Nat} (a:i < l.length):l.getD i cE=l[i]:=by simp[a]
theorem fL (h0 h:Heap) (C bm K off:Nat) (u:aS) (m:cu) (fs:List bL) (f:bL) (M:bH) (B:List Nat) (x:dc) (eB:List Vl) (vt:Value) (Bt:List Nat) (g:iQ h0 h C bm K off u m fs f M B)
  (W:bR h vt eB Bt) (Qx:∀ b∈Bt,b ∉ bm::B/\b≠C) (ok:cn u.aq) (hk:12<=x.kind/\x.kind<=19) (hl:M.objs.length<=900) (FD:FC u M.objs) (ht:mP u x eB M.objs.length)
  (rG:x.kind=12\/x.kind=17\/x.kind=18\/x.kind=19->0<=x.a/\x.a < u.aq.length) (Kl:x.kind=13->x.a=0\/x.a=1) (EH:x.kind=17\/x.kind=18->0<=x.b/\x.b < (cP u.aq x.a).length) :
  cF prog 137 [.pointer (some ⟨C,0,none⟩),.agg #[.int .i64 x.kind,.int .i64 x.a,.int .i64 x.b],vt] h (IF h0 h C bm K off u m fs M B (bt u x eB M.objs f)):=by
 obtain⟨V,o,b⟩:=x;simp only at hk rG Kl EH ⊢;obtain⟨t13,t14,t15,t16,t17,t18,t19,tr⟩:=ht;simp only at t13 t14 t15 t16 t17 t18 t19;obtain⟨pt,ct,rfl,_⟩:=W.form;have hS0:=g;obtain⟨r1,r2,_,af,cc,ah,ag,hu,r9,CN,LU,_⟩:=g.mp;have LV:=hu.le g.ma.le;have hcs:eD h (.slice af u.aq.length cc) u.aq:=by
  obtain⟨p',c',q',d',he,hcs,_⟩:=LV.form;simp only[List.cons.injEq,Value.slice.injEq,true_and,and_true]at he;obtain⟨⟨rfl,rfl⟩,_⟩:=he;exact hcs
 have Wy:=Ev.refl h (bm::B);have Tj:V=12\/V=13\/V=14\/V=15\/V=16\/V=17\/V=18\/V=19:=by omega
 rcases Tj with rfl|rfl|rfl|rfl|rfl|rfl|rfl|rfl
 ·
  have hc:=rG (.inl rfl);refine outs aB func137 xH sS rfl ?_;conv=>whnf
  repeat' ((first|refine ld r9 ?_|refine ay ?_|refine av ?_|refine ptr ?_)<;>conv=>whnf)
  refine cO (iG _ _ _ _ _ _ _ hcs ok hc.1 hc.2 (Nat.lt_succ_self _)) ?_;rintro v D ⟨d,Bc,oc,nc⟩;refine⟨d,?_⟩;conv=>whnf
  refine cW (CM h0 D C bm K off u m fs f M B o (cP u.aq o) v Bc (g.mono d) oc (by have:=ec ok hc.2;omega) O) ?_ ?_
  ·rintro v s ⟨A,X,I,k3⟩;conv=>whnf
   refine⟨_,_,by simp[bt,nq,cM,A]<;>exact⟨rfl,rfl⟩,X,I,(Ev.of_le d (bm::B) (λb y=>.inl y)).trans k3⟩
  rintro p s ⟨A,I,k3⟩;exact⟨0,by simp[bt,nq,cM];omega,I,k3⟩
 ·
  obtain⟨a,rfl⟩:=t13 rfl;have hi0:0 < [a].length:=by simp
  obtain⟨b0,z,w,q0,_,_⟩:=W.two hi0;simp only[List.getElem_cons_zero]at w q0;have ha:=Kl rfl;refine outs aB func137 xH sS rfl ?_;conv=>whnf
  repeat' ((first|refine aP z ?_|refine ld q0 ?_|refine ay ?_|refine av ?_|refine ptr ?_)<;>conv=>whnf)
  refine ax (qt _ _ _ _) ?_;conv=>whnf
  apply aU<;>intro ab;all_goals conv=>whnf
  ·exact⟨4,by simp only[bt];simp;omega,rfl,g.ma.pn⟩
  have E:bt u ⟨13,o,b⟩ [a] M.objs f=nq (mw o) (List.replicate a.n.toNat (if o=0 then 1 else 8)) M.objs f:=by
   simp[bt,ab.1,ab.2]
  repeat' ((first|exact trivial|apply And.intro|refine aP z ?_|refine ld q0 ?_|refine aO (mm _ _) ?_|refine aO (ux _ _) ?_|refine ay ?_|refine av ?_|refine ptr ?_)<;>conv=>whnf)
  all_goals refine dn [Value.int .i64 (if o=0 then 1 else 8)] rfl (λb D y t d hg=>?_)
  all_goals
   have Tk:CK D (.slice (some ⟨b,0,none⟩) 1 1) [if o=0 then 1 else 8] :=
    ⟨Z,by simp[bP],_,1,rfl,Z,.inr ⟨b,0,rfl,(bK hg 1 0 Z).trans rfl⟩⟩
   conv=>whnf
   have ZX:=aW d q0;repeat' ((first|refine aP z ?_|refine ld ZX ?_|refine aO (mm _ _) ?_|refine aO (ux _ _) ?_|refine ay ?_|refine av ?_|refine ptr ?_)<;>conv=>whnf)
   refine cO (FA _ a.n _ D Tk O) ?_;rintro v h2 ⟨l2,Bc,oc,nc⟩;refine⟨l2,?_⟩;conv=>whnf
   have OI:=Heap.le_trans d l2;refine cW (CM h0 h2 C bm K off u m fs f M B (mw o) _ v Bc (g.mono OI) oc (by simp;omega) O) ?_ ?_
   ·rintro v s ⟨A,X,I,k3⟩;conv=>whnf
    refine⟨_,{f with stack:=f.stack++[⟨true,M.objs.length+1⟩]},?_,X,I,(Ev.of_le OI (bm::B) (λb y=>.inl y)).trans k3⟩;rw[E,nq,cM,if_pos A]
   rintro p s ⟨A,I,k3⟩;refine⟨0,?_,I,k3⟩;rw[E,nq,cM,if_neg O]
 ·
  obtain⟨a,rfl,H⟩:=t14 rfl;have hi0:0 < [a].length:=by simp
  obtain⟨b0,z,w,q0,_,_⟩:=W.two hi0;simp only[List.getElem_cons_zero]at w q0;have q:=tr a Z H;refine outs aB func137 xH sS rfl ?_;conv=>whnf
  repeat' ((first|refine aP z ?_|refine dh w ?_|refine ay ?_|refine av ?_|refine ptr ?_)<;>conv=>whnf)
  refine cW (xO h0 h C bm K off u m fs f M B a _ _ (λp=>decide (p < 0)) g (.inr (.inr ⟨rfl,rfl⟩)) q O (λ_=>zn h _)) ?_ ?_
  ·rintro v s ⟨rfl,c,i,bo,p,e,rfl⟩;have FD:=g.gZ c q.2;obtain⟨ZY,c',v,Bi,J,s2,s3,S,_⟩:=FD;rw[e]at J;simp only[Option.some.injEq,Value.slice.injEq,Addr.mk.injEq,and_true,true_and]at J;obtain⟨rfl,rfl⟩:=J;obtain⟨pv,cv,rfl,Km⟩:=S.form;conv=>whnf
   repeat' ((first|refine ld s3 ?_|refine ay ?_|refine av ?_|refine ptr ?_)<;>conv=>whnf)
   have E:bt u ⟨14,o,b⟩ [a] M.objs f=cM M.objs f ⟨false,(((aK M.objs a.n).bp.map bM).length:Int)⟩:=by
    simp only[bt,List.getD_cons_zero,dJ,i];simp;rw[if_neg O]
   rw[E];refine cW (xS ⟨false,(((aK M.objs a.n).bp.map bM).length:Int)⟩ g Wy) ?_ ?_
   ·rintro v s t;conv=>whnf
    exact t
   rintro p s t;exact t
  rintro p s ⟨rfl,c⟩;rcases c with ⟨c,i,e⟩|⟨c,e⟩
  ·exact⟨0,by simp only[bt,List.getD_cons_zero,dJ,i];simp[c],e,g.ma.pn⟩
  exact⟨2,by simp only[bt,List.getD_cons_zero,dJ];simp[c],e,g.ma.pn⟩
 ·
  obtain⟨a,j,rfl,H⟩:=t15 rfl;obtain⟨b0,z,_,F⟩:=W.all Z;have w:=(F 0 Z).1;have q1:=(F 1 Z).2;simp only[List.getElem_cons_zero,List.getElem_cons_succ]at w q1;have q:=tr a Z H;have CO:(List.map bM [a,j]).length=2:=rfl;have E:bt u ⟨15,o,b⟩ [a,j] M.objs f=(match mz M.objs a o j.n with
   | .error Y=>.error Y
   | .ok aa=>cM M.objs f (aa.bp.getD j.n.toNat cE)):=rfl
  rw[E];refine outs aB func137 xH sS rfl ?_;conv=>whnf
  repeat' ((first|exact trivial|apply And.intro|refine aP z ?_|refine ld q1 ?_|refine dh w ?_|refine ay ?_|refine av ?_|refine ptr ?_)<;>conv=>whnf)
  all_goals
   refine od (wA h0 h C bm K off u m fs f M B a o j.n g q O) ?_ ?_
   ·rintro v D ⟨d,c,i,e,e4,bo,p,bv,cv,nv,J,s2,rfl⟩;refine⟨d,?_⟩;have N:=g.mono d;have P:=N.at c q.2 J;obtain⟨p1,A,c1,Bi,L,S,rfl,_⟩:=P;rw[s2]at L;simp only[Option.some.injEq,Value.slice.injEq]at L;obtain⟨rfl,rfl,rfl⟩:=L;have Q:j.n.toNat < (aK M.objs a.n).bp.length:=by omega
    have uB:=S.all O;obtain⟨ZZ,R,_,uB⟩:=uB;simp only[Option.some.injEq,Addr.mk.injEq,and_true]at R;subst R;have n1:=(uB _ Q).1;rw[xR c i ⟨e,e4⟩];simp only[ox Q];conv=>whnf
    repeat' ((first|refine aP z ?_|refine ld (aW d q1) ?_|refine dh n1 ?_|refine ay ?_|refine av ?_|refine ptr ?_)<;>conv=>whnf)
    refine cW (xS (aK M.objs a.n).bp[j.n.toNat] N (Ev.of_le d (bm::B) (λb y=>.inl y))) ?_ ?_
    ·rintro v s t;conv=>whnf
     exact t
    rintro p s t;exact t
   rintro p D ⟨d,c⟩;have G:=g.ma.Fv d;rcases c with ⟨c,i,e⟩|⟨c,e⟩|⟨c,i,e,e4⟩
   ·exact⟨0,by rw[uz c i],e,G⟩
   ·exact⟨2,by rw[uA c],e,G⟩
   exact⟨3,by rw[pG c i e],e4,G⟩
 ·
  obtain⟨a,j,T,rfl,H⟩:=t16 rfl;obtain⟨b0,z,_,F⟩:=W.all Z;have w:=(F 0 Z).1;have q1:=(F 1 Z).2;have n2:=(F 2 Z).1;simp only[List.getElem_cons_zero,List.getElem_cons_succ]at w q1 n2;have q:=tr a Z H;have CO:(List.map bM [a,j,T]).length=3:=rfl;have E:bt u ⟨16,o,b⟩ [a,j,T] M.objs f=(match mz M.objs a o j.n with
   | .error Y=>.error Y
   | .ok aa=>.ok (fA M.objs a.n (putAt aa.bp j.n T),f)):=rfl
  rw[E];refine outs aB func137 xH sS rfl ?_;conv=>whnf
  repeat' ((first|exact trivial|apply And.intro|refine aP z ?_|refine ld q1 ?_|refine dh w ?_|refine dh n2 ?_|refine ay ?_|refine av ?_|refine ptr ?_)<;>conv=>whnf)
  all_goals
   refine od (wA h0 h C bm K off u m fs f M B a o j.n g q O) ?_ ?_
   ·rintro v D ⟨d,c,i,e,e4,bo,p,bv,cv,nv,J,s2,rfl⟩;refine⟨d,?_⟩;have N:=g.mono d;have P:=N.at c q.2 J;obtain⟨p1,A,c1,Bi,L,S,rfl,ju⟩:=P;rw[s2]at L;simp only[Option.some.injEq,Value.slice.injEq]at L;obtain⟨rfl,rfl,rfl⟩:=L;have Q:j.n.toNat < (aK M.objs a.n).bp.length:=by omega
    have LW:=bW.put S Q;obtain⟨ZZ,pre,xx,post,tt,R,_,Tl,wB,AH,rfl,FE⟩:=LW;simp only[Option.some.injEq,Addr.mk.injEq,and_true]at R;subst R;rw[xR c i ⟨e,e4⟩];conv=>whnf
    repeat' ((first|refine aP z ?_|refine dh (bG d n2) ?_|refine ay ?_|refine av ?_|refine ptr ?_)<;>conv=>whnf)
    refine st Tl (by simp[AH,bM,wB]<;>omega) ?_;have hw:dU (pre++xx++post) (0+j.n.toNat*2) [.bool T.ref,.int .i64 T.n]=pre++bM T++post:=jN O (by rw[AH];rfl);have qC:=ju (D.set bv (.cells (pre++bM T++post).toArray tt (0,0))) _ (FE _ T (cB _ _ _)) (λb y _=>by simp only[Heap.set];rw[if_neg (by simpa using y)]);obtain⟨X,A,I⟩:=qC;rw[show dU (pre++xx++post) _ _=pre++bM T++post from hw];conv=>whnf
    refine⟨_,_,rfl,X,?_,(Ev.of_le d (bm::B) (λb y=>.inl y)).trans I⟩;have:=A.au;simp only at this;rw[<-g.au];exact A
   rintro p D ⟨d,c⟩;have G:=g.ma.Fv d;rcases c with ⟨c,i,e⟩|⟨c,e⟩|⟨c,i,e,e4⟩
   ·exact⟨0,by rw[uz c i],e,G⟩
   ·exact⟨2,by rw[uA c],e,G⟩
   exact⟨3,by rw[pG c i e],e4,G⟩
 ·
  obtain⟨a,rfl,H⟩:=t17 rfl;obtain⟨b0,z,_,F⟩:=W.all Z;have w:=(F 0 Z).1;simp only[List.getElem_cons_zero]at w;have q:=tr a Z H;have CO:(List.map bM [a]).length=1:=rfl;have hc:=rG (.inr (.inl rfl));have y:=EH (.inl rfl);have E:bt u ⟨17,o,b⟩ [a] M.objs f=(match dJ M.objs a.n (up u.aq (aK M.objs a.n).cls o)with
   | .error Y=>.error Y
   | .ok aa=>cM M.objs f (aa.bp.getD b.toNat cE)):=rfl
  rw[E];refine outs aB func137 xH sS rfl ?_;conv=>whnf
  repeat' ((first|exact trivial|apply And.intro|refine aP z ?_|refine dh w ?_|refine ay ?_|refine av ?_|refine ptr ?_)<;>conv=>whnf)
  all_goals
   refine od (ot h0 h C bm K off u m fs f M B a o g ok q O (λhp=>(FD _ (hD hp q.2)).1.2)) ?_ ?_
   ·rintro v D ⟨d,c,i,bo,p,J,rfl⟩;refine⟨d,?_⟩;have N:=g.mono d;have P:=N.at c q.2 J;obtain⟨p1,A,c1,Bi,L,S,rfl,_⟩:=P;have Kn:=FD _ (hD c q.2);have Qy:=jc i;have hle:=qD ok _ (Nat.lt_succ_self _) Kn.1.2 i;have Ny:=Kn.2 Qy;have Q:b.toNat < (aK M.objs a.n).bp.length:=by omega
    have uB:=S.all O;obtain⟨bv,R,_,uB⟩:=uB;have n1:=(uB _ Q).1;rw[fe c i];simp only[ox Q];conv=>whnf
    repeat' ((first|exact trivial|apply And.intro|refine ld L ?_|refine aP R ?_|refine dh n1 ?_|refine ay ?_|refine av ?_|refine ptr ?_)<;>conv=>whnf)
    all_goals
     refine cW (xS (aK M.objs a.n).bp[b.toNat] N (Ev.of_le d (bm::B) (λb y=>.inl y))) ?_ ?_
     ·rintro v s t;conv=>whnf
      exact t
     rintro p s t;exact t
   rintro p D ⟨d,c⟩;have G:=g.ma.Fv d;rcases c with ⟨c,i,e⟩|⟨c,e⟩
   ·exact⟨0,by rw[eT c i],e,G⟩
   exact⟨2,by rw[eU c],e,G⟩
 ·
  obtain⟨a,j,rfl,H⟩:=t18 rfl;obtain⟨b0,z,_,F⟩:=W.all Z;have w:=(F 0 Z).1;have n1:=(F 1 Z).1;simp only[List.getElem_cons_zero,List.getElem_cons_succ]at w n1;have q:=tr a Z H;have CO:(List.map bM [a,j]).length=2:=rfl;have hc:=rG (.inr (.inr (.inl rfl)));have y:=EH (.inr rfl);have E:bt u ⟨18,o,b⟩ [a,j] M.objs f=(match dJ M.objs a.n (up u.aq (aK M.objs a.n).cls o)with
   | .error Y=>.error Y
   | .ok aa=>.ok (fA M.objs a.n (putAt aa.bp b j),f)):=rfl
  rw[E];refine outs aB func137 xH sS rfl ?_;conv=>whnf
  repeat' ((first|exact trivial|apply And.intro|refine aP z ?_|refine dh w ?_|refine dh n1 ?_|refine ay ?_|refine av ?_|refine ptr ?_)<;>conv=>whnf)
  all_goals
   refine od (ot h0 h C bm K off u m fs f M B a o g ok q O (λhp=>(FD _ (hD hp q.2)).1.2)) ?_ ?_
   ·rintro v D ⟨d,c,i,bo,p,J,rfl⟩;refine⟨d,?_⟩;have N:=g.mono d;have P:=N.at c q.2 J;obtain⟨p1,A,c1,Bi,L,S,rfl,ju⟩:=P;have Kn:=FD _ (hD c q.2);have Qy:=jc i;have hle:=qD ok _ (Nat.lt_succ_self _) Kn.1.2 i;have Ny:=Kn.2 Qy;have Q:b.toNat < (aK M.objs a.n).bp.length:=by omega
    have LW:=bW.put S Q;obtain⟨bv,pre,xx,post,tt,R,_,Tl,wB,AH,rfl,FE⟩:=LW;rw[fe c i];conv=>whnf
    repeat' ((first|exact trivial|apply And.intro|refine ld L ?_|refine aP R ?_|refine aP z ?_|refine dh (bG d n1) ?_|refine ay ?_|refine av ?_|refine ptr ?_)<;>conv=>whnf)
    all_goals
     refine st Tl (by simp[AH,bM,wB]<;>omega) ?_;have hw:dU (pre++xx++post) (0+b.toNat*2) [.bool j.ref,.int .i64 j.n]=pre++bM j++post:=jN O (by rw[AH];rfl);have qC:=ju (D.set bv (.cells (pre++bM j++post).toArray tt (0,0))) _ (FE _ j (cB _ _ _)) (λb y _=>by simp only[Heap.set];rw[if_neg (by simpa using y)]);obtain⟨X,A,I⟩:=qC;rw[show dU (pre++xx++post) _ _=pre++bM j++post from hw];conv=>whnf
     refine⟨_,_,rfl,X,?_,(Ev.of_le d (bm::B) (λb y=>.inl y)).trans I⟩;rw[<-g.au];exact A
   rintro p D ⟨d,c⟩;have G:=g.ma.Fv d;rcases c with ⟨c,i,e⟩|⟨c,e⟩
   ·exact⟨0,by rw[eT c i],e,G⟩
   exact⟨2,by rw[eU c],e,G⟩
 
 obtain⟨a,rfl,H⟩:=t19 rfl;obtain⟨b0,z,_,F⟩:=W.all Z;have w:=(F 0 Z).1;simp only[List.getElem_cons_zero]at w;have q:=tr a Z H;have CO:(List.map bM [a]).length=1:=rfl;have hc:=rG (.inr (.inr (.inr rfl)));have E:bt u ⟨19,o,b⟩ [a] M.objs f=(if 0 < a.n/\gU u.aq (typeOf (aK M.objs a.n).cls) (8+o)=false then .error 5 else cM M.objs f a):=rfl;rw[E];refine outs aB func137 xH sS rfl ?_;conv=>whnf
 repeat' ((first|refine aP z ?_|refine dh w ?_|refine ay ?_|refine av ?_|refine ptr ?_)<;>conv=>whnf)
 have fin:∀ {ae:Value->Heap->Prop} {ad:List PanicEntry->Heap->Prop},(∀ v s,IF h0 h C bm K off u m fs M B (cM M.objs f a) (.ret v) s->ae v s)->(∀ p s,IF h0 h C bm K off u m fs M B (cM M.objs f a) (.jj p) s->ad p s)->Vc.Call prog 134 [.pointer (some ⟨C,0,none⟩),.agg #[.bool a.ref,.int .i64 a.n]] h ae ad:=λA I=>cW (xS a g Wy) A I;by_cases uC:0 < a.n
 ·have P:=g.gZ uC q.2;obtain⟨bo,p,v,Bi,J,s2,s3,_,_⟩:=P;have Kn:=FD _ (hD uC q.2);have Qz:=ok.2.1;have Z0:Bm u.aq.length (typeOf (aK M.objs a.n).cls):=by unfold Bm typeOf;repeat' split<;>omega
  have Tm:Bm u.aq.length (8+o):=by unfold Bm;omega
  refine eR uC ?_;conv=>whnf
  rw[H];repeat' ((first|refine ld r9 ?_|refine ld r2 ?_|refine ld J ?_|refine ay ?_|refine av ?_|refine ptr ?_)<;>conv=>whnf)
  refine aO (DM h bo _ p a.n _ s2 ⟨uC,q.2⟩ O O) ?_;conv=>whnf
  repeat' ((first|refine aO (Fu _ _ _ _ _ _ h hcs ok Z0 Tm) ?_|refine ay ?_|refine av ?_|refine ptr ?_)<;>conv=>whnf)
  apply cq<;>intro k;all_goals conv=>whnf
  ·exact⟨5,by rw[if_pos ⟨uC,k⟩],rfl,g.ma.pn⟩
  rw[if_neg (by rw[k];simp)];rw[H]at fin;refine fin ?_ ?_
  ·rintro v s t;conv=>whnf
   exact t
  rintro p s t;exact t
 refine cx uC ?_;conv=>whnf
 rw[if_neg (λhx=>uC hx.1)];refine fin ?_ ?_
 ·rintro v s t;conv=>whnf
  exact t
 rintro p s t;exact t
def xU (_:Heap) (x:List Value) (a:Int) (B:List Nat):Prop:=x=bP a/\B=[]
theorem Ko:Kept xU:=λ_ _ _ _ _ _ h=>h
theorem Z1:Iz xU:=λ_ _ _ _ h b a=>by rw[h.2]at a;cases a
theorem Kq {h:Heap}:∀ l:List Int,Rows xU h (l.map bP) l []
 | []=>.nil
 | a::l=>by have:=Rows.cons (R:=xU) (h:=h) (x:=bP a) (a:=a) (B1:=[]) ⟨rfl,rfl⟩ (Kq l);simpa using this
theorem FF {h:Heap} {v:Value} {l:List Int} {B:List Nat} (a:dI h v l B):dR xU 1 h v l B:=⟨_,B,[],a,Kq l,Z⟩
theorem DN {h:Heap} {xs:List (List Value)} {l:List Int} {B:List Nat} (b:Rows xU h xs l B):xs=l.map bP/\B=[]:=by
 induction b with
 | nil=>exact⟨rfl,rfl⟩
 | cons a _ c=>obtain⟨rfl,rfl⟩:=a;obtain⟨rfl,rfl⟩:=c;exact⟨rfl,rfl⟩
theorem FG {h:Heap} {v:Value} {l:List Int} {B:List Nat} (c:dR xU 1 h v l B):dI h v l B:=by
 obtain⟨f,d,e,a,b,rfl⟩:=c;obtain⟨rfl,rfl⟩:=DN b;simpa using a
theorem fo.OJ {h0 h:Heap} {bm:Nat} {pre post:List Value} {M:bH} {B:List Nat} (C:fo h0 h bm pre post M B) (hl:M.objs.length<=1000) :
  ∃ t p c q vs,h bm=some (.cells (pre++aE (.slice p M.objs.length c) q vs M++post).toArray t (0,0)) /\
   ∀ {bytes:Nat} {zero:List Value} {Q:TypeId} {J:Nat} (a:Ob) (i:List Nat) (y:List Value) (K:Value->Heap->Prop),jt h y a i->Nd i->(∀ b∈i,b ∉ bm::B/\h0 b=none)->J=1->y.length=2->dD y=true->zero.length=2->bytes<=1000 ->
    (∀ w u m,m bm=h bm->(∀ b,b ∉ B->b ∉ i->h b≠none->m b=h b)->h0.le m->(∃ B',fo h0 (m.set bm (.cells (pre++aE (.slice w (M.objs.length+1) u) q vs M++post).toArray t (0,0))) bm pre post {M with objs:=M.objs++[a]} B' /\
     Ev h (m.set bm (.cells (pre++aE (.slice w (M.objs.length+1) u) q vs M++post).toArray t (0,0))) ((bm::B)++i) (bm::B'))->K (.slice w (M.objs.length+1) u) m)->App bytes 2 zero Q h p M.objs.length c J y K:=by
 have nd:=C.nd;have mW:=C.in;have hle:=C.le;have I:=C.fr;obtain⟨t,vo,q,vs,j,f,g,H,S,h2,h3,rfl,ju⟩:=C.whole;obtain⟨p,c,rfl,hc⟩:=S.form;refine⟨t,p,c,q,vs,H,?_⟩;intro bytes zero Q J a i y K k1 k2 V k4 k5 k6 k7 k8 k9;have z:∀ b∈i,b ∉ j/\b ∉ f/\b ∉ g/\b≠bm:=by
  intro b e;have:=V b e;simp at this;grind
 have T:∀ b∈j,b ∉ f/\b ∉ g/\b≠bm:=by
  intro b e;have hp:=List.count_pos_iff.2 e;have v:=nd b;simp only[List.count_append,List.count_cons]at v;refine⟨λd=>?_,λd=>?_,?_⟩
  ·have:=List.count_pos_iff.2 d;omega
  ·have:=List.count_pos_iff.2 d;omega
  rintro rfl;simp at v;omega
 have E:bm ∉ j++f++g:=by
  intro d;have:=List.count_pos_iff.2 d;have v:=nd bm;simp only[List.count_cons,beq_self_eq_true,if_true]at v;omega
 have Br:Nd (j++f++g):=nd.less λa=>by simp only[List.count_cons];omega
 have Bu:Nd (j++i):=by
  have:=Nd.swap (A:=j) (X:=f++g) (X':=i) (Br.perm λa=>by simp only[List.count_append];omega) k2 (λb e=>.inr (by have:=z b e;grind));exact this
 refine kZ gP vH (h0:=h0) S k1 Bu (λb e=>?_) hle k4 k5 k6 k7 (by have:=Nat.mul_le_mul (show M.objs.length+1<=1001 by omega) k8;omega) O ?_
 ·rcases List.mem_append.1 e with e|e
  ·exact I b (by simp[e])
  exact(V b e).2
 intro v' m s R G g3 g4 D;obtain⟨w,u,rfl,_⟩:=G.form;have hlen:(M.objs++[a]).length=M.objs.length+1:=by simp
 rw[hlen]at G ⊢;have same:∀ b,b ∉ j->b ∉ i->h b≠none->m b=h b:=λb L N P=>D.qv b P (by simp[L,N]);have e1:m bm=h bm:=same bm (λd=>E (by simp[d])) (λd=>(z _ d).2.2.2 rfl) (by rw[H];simp);refine k9 w u m e1 (λb L N P=>same b (λd=>L (by simp[d])) N P) R ?_;have Kk:bm ∉ s:=by
  intro d;rcases D.new bm d with o|o
  ·rcases List.mem_append.1 o with o|o
   ·exact E (by simp[o])
   exact(z _ o).2.2.2 rfl
  rw[H]at o;cases o
 have W:∀ F:List Nat,(∀ b∈F,b≠bm/\b ∉ j/\b ∉ i)->cD h (m.set bm (.cells (pre++aE (.slice w (M.objs.length+1) u) q vs M++post).toArray t (0,0))) F:=by
  intro F hC b e Y x;have:=hC b e;simp only[Heap.set,this.1,if_false];rw[same b this.2.1 this.2.2 (by rw[x];simp)];exact x
 have d0:∀ b∈f,b≠bm/\b ∉ j/\b ∉ i:=λb e=>⟨λd=>E (by simp[<-d,e]),λd=>by have:=T b d;grind,λd=>by have:=z b d;grind⟩
 have d1:∀ b∈g,b≠bm/\b ∉ j/\b ∉ i:=λb e=>⟨λd=>E (by simp[<-d,e]),λd=>by have:=T b d;grind,λd=>by have:=z b d;grind⟩
 have CJ:Ev h (m.set bm (.cells (pre++aE (.slice w (M.objs.length+1) u) q vs M++post).toArray t (0,0))) ((bm::(j++f++g))++i) (bm::(s++f++g)):=by
  refine⟨λb e v=>?_,λb e=>?_⟩
  ·have:b≠bm:=λd=>v (by simp[d]);simp only[Heap.set,this,if_false];exact same b (λd=>v (by simp[d])) (λd=>v (by simp[d])) e
  have:b∈s\/b∈bm::(f++g):=by simp at e ⊢;grind
  rcases this with d|d
  ·exact(D.new b d).imp (λo=>by simp at o ⊢;grind) id
  exact .inl (by simp at d ⊢;grind)
 have Bv:Nd (bm::(s++f++g)):=by
  have:=Nd.swap (A:=bm::(f++g)) (X:=j) (X':=s) (nd.perm λa=>by simp only[List.count_append,List.count_cons];omega) g3 (λb e=>?_)
  ·exact this.perm λa=>by simp only[List.count_append,List.count_cons];omega
  rcases D.new b e with d|d
  ·rcases List.mem_append.1 d with d|d
   ·exact .inl d
   have:=z b d;exact .inr (by simp;grind)
  refine .inr λo=>?_;obtain⟨Y,x⟩:=mW b (by simp at o ⊢;grind);rw[d]at x;cases x
 refine⟨s++f++g,⟨Heap.aR R (I bm Z),⟨aE (.slice w (M.objs.length+1) u) q vs M,t,by simp[Heap.set],_,q,vs,s,f,g,rfl,?_,?_,?_,rfl⟩,Bv,?_⟩,CJ⟩
 ·refine G.aJ gP λb e Y x=>?_;have:b≠bm:=by rintro rfl;exact Kk e
  simp only[Heap.set,this,if_false];exact x
 ·exact h2.aJ jL (W f d0)
 ·exact h3.aJ (W g d1)
 intro b e;have:b∈s\/b∈bm::(j++f++g):=by simp at e ⊢;grind
 rcases this with d|d
 ·exact g4 b d
 exact I b d
theorem fo.wC {h0 h:Heap} {bm:Nat} {pre post:List Value} {M:bH} {B:List Nat} (C:fo h0 h bm pre post M B) (hl:M.au.length<=1000) :
  ∃ t p c q vs,h bm=some (.cells (pre++aE q (.slice p M.au.length c) vs M++post).toArray t (0,0)) /\
   ∀ {bytes:Nat} {zero:List Value} {Q:TypeId} {J:Nat} (a:bL) (i:List Nat) (y:List Value) (K:Value->Heap->Prop),mo h y a i->Nd i->(∀ b∈i,b ∉ bm::B/\h0 b=none)->J=1->y.length=4->dD y=true->zero.length=4->bytes<=1000 ->
    (∀ w u m,m bm=h bm->(∀ b,b ∉ B->b ∉ i->h b≠none->m b=h b)->h0.le m->(∃ B',fo h0 (m.set bm (.cells (pre++aE q (.slice w (M.au.length+1) u) vs M++post).toArray t (0,0))) bm pre post {M with au:=M.au++[a]} B' /\
     Ev h (m.set bm (.cells (pre++aE q (.slice w (M.au.length+1) u) vs M++post).toArray t (0,0))) ((bm::B)++i) (bm::B'))->K (.slice w (M.au.length+1) u) m)->App bytes 4 zero Q h p M.au.length c J y K:=by
 have nd:=C.nd;have mW:=C.in;have hle:=C.le;have I:=C.fr;obtain⟨t,q,vf,vs,f,j,g,H,h1,S,h3,rfl,ju⟩:=C.whole;obtain⟨p,c,rfl,hc⟩:=S.form;refine⟨t,p,c,q,vs,H,?_⟩;intro bytes zero Q J a i y K k1 k2 V k4 k5 k6 k7 k8 k9;have z:∀ b∈i,b ∉ f/\b ∉ j/\b ∉ g/\b≠bm:=by
  intro b e;have:=V b e;simp at this;grind
 have T:∀ b∈j,b ∉ f/\b ∉ g/\b≠bm:=by
  intro b e;have hp:=List.count_pos_iff.2 e;have v:=nd b;simp only[List.count_append,List.count_cons]at v;refine⟨λd=>?_,λd=>?_,?_⟩
  ·have:=List.count_pos_iff.2 d;omega
  ·have:=List.count_pos_iff.2 d;omega
  rintro rfl;simp at v;omega
 have E:bm ∉ f++j++g:=by
  intro d;have:=List.count_pos_iff.2 d;have v:=nd bm;simp only[List.count_cons,beq_self_eq_true,if_true]at v;omega
 have Br:Nd (f++j++g):=nd.less λa=>by simp only[List.count_cons];omega
 have Bu:Nd (j++i):=by
  have:=Nd.swap (A:=j) (X:=f++g) (X':=i) (Br.perm λa=>by simp only[List.count_append];omega) k2 (λb e=>.inr (by have:=z b e;grind));exact this
 refine kZ jL Nv (h0:=h0) S k1 Bu (λb e=>?_) hle k4 k5 k6 k7 (by have:=Nat.mul_le_mul (show M.au.length+1<=1001 by omega) k8;omega) O ?_
 ·rcases List.mem_append.1 e with e|e
  ·exact I b (by simp[e])
  exact(V b e).2
 intro v' m s R G g3 g4 D;obtain⟨w,u,rfl,_⟩:=G.form;have hlen:(M.au++[a]).length=M.au.length+1:=by simp
 rw[hlen]at G ⊢;have same:∀ b,b ∉ j->b ∉ i->h b≠none->m b=h b:=λb L N P=>D.qv b P (by simp[L,N]);have e1:m bm=h bm:=same bm (λd=>E (by simp[d])) (λd=>(z _ d).2.2.2 rfl) (by rw[H];simp);refine k9 w u m e1 (λb L N P=>same b (λd=>L (by simp[d])) N P) R ?_;have Kk:bm ∉ s:=by
  intro d;rcases D.new bm d with o|o
  ·rcases List.mem_append.1 o with o|o
   ·exact E (by simp[o])
   exact(z _ o).2.2.2 rfl
  rw[H]at o;cases o
 have W:∀ F:List Nat,(∀ b∈F,b≠bm/\b ∉ j/\b ∉ i)->cD h (m.set bm (.cells (pre++aE q (.slice w (M.au.length+1) u) vs M++post).toArray t (0,0))) F:=by
  intro F hC b e Y x;have:=hC b e;simp only[Heap.set,this.1,if_false];rw[same b this.2.1 this.2.2 (by rw[x];simp)];exact x
 have d0:∀ b∈f,b≠bm/\b ∉ j/\b ∉ i:=λb e=>⟨λd=>E (by simp[<-d,e]),λd=>by have:=T b d;grind,λd=>by have:=z b d;grind⟩
 have d1:∀ b∈g,b≠bm/\b ∉ j/\b ∉ i:=λb e=>⟨λd=>E (by simp[<-d,e]),λd=>by have:=T b d;grind,λd=>by have:=z b d;grind⟩
 have CJ:Ev h (m.set bm (.cells (pre++aE q (.slice w (M.au.length+1) u) vs M++post).toArray t (0,0))) ((bm::(f++j++g))++i) (bm::(f++s++g)):=by
  refine⟨λb e v=>?_,λb e=>?_⟩
  ·have:b≠bm:=λd=>v (by simp[d]);simp only[Heap.set,this,if_false];exact same b (λd=>v (by simp[d])) (λd=>v (by simp[d])) e
  have:b∈s\/b∈bm::(f++g):=by simp at e ⊢;grind
  rcases this with d|d
  ·exact(D.new b d).imp (λo=>by simp at o ⊢;grind) id
  exact .inl (by simp at d ⊢;grind)
 have Bv:Nd (bm::(f++s++g)):=by
  have:=Nd.swap (A:=bm::(f++g)) (X:=j) (X':=s) (nd.perm λa=>by simp only[List.count_append,List.count_cons];omega) g3 (λb e=>?_)
  ·exact this.perm λa=>by simp only[List.count_append,List.count_cons];omega
  rcases D.new b e with d|d
  ·rcases List.mem_append.1 d with d|d
   ·exact .inl d
   have:=z b d;exact .inr (by simp;grind)
  refine .inr λo=>?_;obtain⟨Y,x⟩:=mW b (by simp at o ⊢;grind);rw[d]at x;cases x
 refine⟨f++s++g,⟨Heap.aR R (I bm Z),⟨aE q (.slice w (M.au.length+1) u) vs M,t,by simp[Heap.set],q,_,vs,f,s,g,rfl,?_,?_,?_,rfl⟩,Bv,?_⟩,CJ⟩
 ·exact h1.aJ gP (W f d0)
 ·refine G.aJ jL λb e Y x=>?_;have:b≠bm:=by rintro rfl;exact Kk e
  simp only[Heap.set,this,if_false];exact x
 ·exact h3.aJ (W g d1)
 intro b e;have:b∈s\/b∈bm::(f++j++g):=by simp at e ⊢;grind
 rcases this with d|d
 ·exact g4 b d
 exact I b d
theorem fo.Ks {h0 h:Heap} {bm:Nat} {pre post:List Value} {M:bH} {B:List Nat} (D:fo h0 h bm pre post M B) (hl:M.said.length<=1000) :
  ∃ t p c s q,h bm=some (.cells (pre++aE s q (.slice p M.said.length c) M++post).toArray t (0,0)) /\
   ∀ {bytes:Nat} {zero:List Value} {S:TypeId} {N:Nat} (a:Int) (j:List Nat) (y:List Value) (K:Value->Heap->Prop),xU h y a j->Nd j->(∀ b∈j,b ∉ bm::B/\h0 b=none)->N=1->y.length=1->dD y=true->zero.length=1->bytes<=1000 ->
    (∀ x v m,m bm=h bm->(∀ b,b ∉ B->b ∉ j->h b≠none->m b=h b)->h0.le m->(∃ B',fo h0 (m.set bm (.cells (pre++aE s q (.slice x (M.said.length+1) v) M++post).toArray t (0,0))) bm pre post {M with said:=M.said++[a]} B' /\
     Ev h (m.set bm (.cells (pre++aE s q (.slice x (M.said.length+1) v) M++post).toArray t (0,0))) ((bm::B)++j) (bm::B'))->K (.slice x (M.said.length+1) v) m)->App bytes 1 zero S h p M.said.length c N y K:=by
 have nd:=D.nd;have mW:=D.in;have hle:=D.le;have L:=D.fr;obtain⟨t,s,q,vs,f,g,i,J,h1,h2,F,rfl,ju⟩:=D.whole;have F:dR xU 1 h vs M.said i:=FF F;obtain⟨p,c,rfl,hc⟩:=F.form;refine⟨t,p,c,s,q,J,?_⟩;intro bytes zero S N a j y K k1 k2 W k4 k5 k6 k7 k8 k9;have C:∀ b∈j,b ∉ f/\b ∉ g/\b ∉ i/\b≠bm:=by
  intro b e;have:=W b e;simp at this;grind
 have V:∀ b∈i,b ∉ f/\b ∉ g/\b≠bm:=by
  intro b e;have hp:=List.count_pos_iff.2 e;have w:=nd b;simp only[List.count_append,List.count_cons]at w;refine⟨λd=>?_,λd=>?_,?_⟩
  ·have:=List.count_pos_iff.2 d;omega
  ·have:=List.count_pos_iff.2 d;omega
  rintro rfl;simp at w;omega
 have G:bm ∉ f++g++i:=by
  intro d;have:=List.count_pos_iff.2 d;have w:=nd bm;simp only[List.count_cons,beq_self_eq_true,if_true]at w;omega
 have Br:Nd (f++g++i):=nd.less λa=>by simp only[List.count_cons];omega
 have Bu:Nd (i++j):=by
  have:=Nd.swap (A:=i) (X:=f++g) (X':=j) (Br.perm λa=>by simp only[List.count_append];omega) k2 (λb e=>.inr (by have:=C b e;grind));exact this
 refine kZ Ko Z1 (h0:=h0) F k1 Bu (λb e=>?_) hle k4 k5 k6 k7 (by have:=Nat.mul_le_mul (show M.said.length+1<=1001 by omega) k8;omega) O ?_
 ·rcases List.mem_append.1 e with e|e
  ·exact L b (by simp[e])
  exact(W b e).2
 intro v' m u T I g3 g4 E;obtain⟨x,v,rfl,_⟩:=I.form;have hlen:(M.said++[a]).length=M.said.length+1:=by simp
 rw[hlen]at I ⊢;have same:∀ b,b ∉ i->b ∉ j->h b≠none->m b=h b:=λb P Q R=>E.qv b R (by simp[P,Q]);have e1:m bm=h bm:=same bm (λd=>G (by simp[d])) (λd=>(C _ d).2.2.2 rfl) (by rw[J];simp);refine k9 x v m e1 (λb P Q R=>same b (λd=>P (by simp[d])) Q R) T ?_;have Kk:bm ∉ u:=by
  intro d;rcases E.new bm d with o|o
  ·rcases List.mem_append.1 o with o|o
   ·exact G (by simp[o])
   exact(C _ o).2.2.2 rfl
  rw[J]at o;cases o
 have Y:∀ H:List Nat,(∀ b∈H,b≠bm/\b ∉ i/\b ∉ j)->cD h (m.set bm (.cells (pre++aE s q (.slice x (M.said.length+1) v) M++post).toArray t (0,0))) H:=by
  intro H hC b e aa z;have:=hC b e;simp only[Heap.set,this.1,if_false];rw[same b this.2.1 this.2.2 (by rw[z];simp)];exact z
 have d0:∀ b∈f,b≠bm/\b ∉ i/\b ∉ j:=λb e=>⟨λd=>G (by simp[<-d,e]),λd=>by have:=V b d;grind,λd=>by have:=C b d;grind⟩
 have d1:∀ b∈g,b≠bm/\b ∉ i/\b ∉ j:=λb e=>⟨λd=>G (by simp[<-d,e]),λd=>by have:=V b d;grind,λd=>by have:=C b d;grind⟩
 have CJ:Ev h (m.set bm (.cells (pre++aE s q (.slice x (M.said.length+1) v) M++post).toArray t (0,0))) ((bm::(f++g++i))++j) (bm::(f++g++u)):=by
  refine⟨λb e w=>?_,λb e=>?_⟩
  ·have:b≠bm:=λd=>w (by simp[d]);simp only[Heap.set,this,if_false];exact same b (λd=>w (by simp[d])) (λd=>w (by simp[d])) e
  have:b∈u\/b∈bm::(f++g):=by simp at e ⊢;grind
  rcases this with d|d
  ·exact(E.new b d).imp (λo=>by simp at o ⊢;grind) id
  exact .inl (by simp at d ⊢;grind)
 have Bv:Nd (bm::(f++g++u)):=by
  have:=Nd.swap (A:=bm::(f++g)) (X:=i) (X':=u) (nd.perm λa=>by simp only[List.count_append,List.count_cons];omega) g3 (λb e=>?_)
  ·exact this.perm λa=>by simp only[List.count_append,List.count_cons];omega
  rcases E.new b e with d|d
  ·rcases List.mem_append.1 d with d|d
   ·exact .inl d
   have:=C b d;exact .inr (by simp;grind)
  refine .inr λo=>?_;obtain⟨aa,z⟩:=mW b (by simp at o ⊢;grind);rw[d]at z;cases z
 refine⟨f++g++u,⟨Heap.aR T (L bm Z),⟨aE s q (.slice x (M.said.length+1) v) M,t,by simp[Heap.set],s,q,_,f,g,u,rfl,?_,?_,?_,rfl⟩,Bv,?_⟩,CJ⟩
 ·exact h1.aJ gP (Y f d0)
 ·exact h2.aJ jL (Y g d1)
 ·refine FG (?_);refine I.aJ Ko λb e aa z=>?_;have:b≠bm:=by rintro rfl;exact Kk e
  simp only[Heap.set,this,if_false];exact z
 intro b e;have:b∈u\/b∈bm::(f++g++i):=by simp at e ⊢;grind
 rcases this with d|d
 ·exact g4 b d
 exact L b d
theorem fo.Kt {h0 h:Heap} {bm:Nat} {pre post:List Value} {M M':bH} {B B':List Nat} {t:TypeId} {mc:List Value} (d:fo h0 h bm pre post M B) (f:eX h mc M' B') (e:∀ a,B'.count a<=B.count a) :
  fo h0 (h.set bm (.cells (pre++mc++post).toArray t (0,0))) bm pre post M' B'/\Ev h (h.set bm (.cells (pre++mc++post).toArray t (0,0))) (bm::B) (bm::B'):=by
 have i:∀ b,b∈bm::B'->b∈bm::B:=by
  intro b c;have:=List.count_pos_iff.2 c;refine List.count_pos_iff.1 ?_;have:=e b;simp only[List.count_cons]at *;omega
 have o:bm ∉ B':=by
  intro g;have p:=List.count_pos_iff.2 g;have q:=e bm;have j:=d.nd bm;simp only[List.count_cons,beq_self_eq_true,if_true]at j;omega
 refine⟨⟨Heap.aR d.le (d.fr bm Z),⟨mc,t,cB _ _ _,f.aJ λb c s f=>?_⟩,d.nd.less λa=>by have:=e a;simp only[List.count_cons];omega,λb c=>d.fr b (i b c)⟩,⟨λb c m=>?_,λb c=>.inl (i b c)⟩⟩
 ·have:b≠bm:=by rintro rfl;exact o c
  simp only[Heap.set,this,if_false];exact f
 have:b≠bm:=λg=>m (by simp[g]);simp only[Heap.set,this,if_false]
theorem fo.IG {h0 h:Heap} {bm:Nat} {pre post:List Value} {M:bH} {B:List Nat} {fs:List bL} {f:bL} (i:fo h0 h bm pre post M B) (w:M.au=fs++[f]) :
  ∃ t p c a vs,h bm=some (.cells (pre++aE a (.slice p (fs.length+1) c) vs M++post).toArray t (0,0))/\fs.length+1<=c /\
   ∃ B',fo h0 (h.set bm (.cells (pre++aE a (.slice p fs.length c) vs M++post).toArray t (0,0))) bm pre post {M with au:=fs} B'/\Ev h (h.set bm (.cells (pre++aE a (.slice p fs.length c) vs M++post).toArray t (0,0))) (bm::B) (bm::B'):=by
 obtain⟨t,a,D,vs,d,z,g,j,q,b,u,rfl,C⟩:=i.whole;rw[w]at b;obtain⟨p,c,rfl,m⟩:=b.form;obtain⟨A,e,s,v⟩:=b.pop;have x:(fs++[f]).length=fs.length+1:=by simp
 rw[x]at j m;have y:=i.Kt (M':={M with au:=fs}) (mc:=aE a (.slice p fs.length c) vs M) (t:=t) (B':=d++e++g) ⟨a,_,vs,d,e,g,rfl,q,s,u,rfl⟩ (λo=>by have:=v o;simp only[List.count_append];omega);exact⟨t,p,c,a,vs,j,m,_,y⟩
theorem fo.ints {h0 h:Heap} {bm:Nat} {pre post:List Value} {M:bH} {B:List Nat} (i:fo h0 h bm pre post M B) :
  ∃ t b a vs,h bm=some (.cells (pre++aE b a vs M++post).toArray t (0,0))/\(∃ p c,b=.slice p M.objs.length c)/\(∃ p c,a=.slice p M.au.length c)/\(∃ p c,vs=.slice p M.said.length c) /\
   ∀ M':bH,M'.objs=M.objs->M'.au=M.au->M'.said=M.said ->
    fo h0 (h.set bm (.cells (pre++aE b a vs M'++post).toArray t (0,0))) bm pre post M' B/\Ev h (h.set bm (.cells (pre++aE b a vs M'++post).toArray t (0,0))) (bm::B) (bm::B):=by
 obtain⟨t,b,a,vs,j,m,o,u,d,f,g,rfl,A⟩:=i.whole;obtain⟨y,q,s,_⟩:=g.form;refine⟨t,b,a,vs,u,?_,?_,⟨y,q,by rw[s];simp⟩,λM' v w x=>?_⟩
 ·obtain⟨p,c,e,_⟩:=d.form;exact⟨p,c,e⟩
 ·obtain⟨p,c,e,_⟩:=f.form;exact⟨p,c,e⟩
 exact i.Kt (mc:=aE b a vs M') ⟨b,a,vs,j,m,o,rfl,by rw[v];exact d,by rw[w];exact f,by rw[x];exact g,rfl⟩ (λz=>Nat.le_refl _)
theorem qE (h0 h:Heap) (bm:Nat) (x:List Value) (u:aS) (fs:List bL) (f:bL) (M:bH) (B:List Nat) (c:fo h0 h bm [] [] M B) (e:cZ h0 x u) (d:M.au=fs++[f]) (hm:0<=f.aC/\f.aC < u.methods.length) (hl:M.au.length<=1000) :
  bI prog 95 [.agg ⟨x⟩,.pointer (some ⟨bm,0,none⟩)] h λv h'=>h.le h'/\∃ b a off,v=.pointer (some ⟨b,0,none⟩)/\h b=none/\iQ h0 h' b bm a off u (aY u f.aC) fs f M B:=by
 have V:=e.le c.le;obtain⟨vo,vs,a,j,tm,ad,ab,r,v1,v2,Bo,B1,B2,N,P,hq,o1,o2,nd,mW,II,ju⟩:=c.top d;obtain⟨X,D,q',E,rfl,hcs,kS,ko,hl2⟩:=V.form;have Ku:M.au.length=fs.length+1:=by rw[d];simp
 have w:rd h bm 1=some (.slice (some ⟨a,0,none⟩) (fs.length+1) j):=bA N (i:=1) Z rfl;have r2:rd h a (fs.length*4)=some (.int .i64 f.aC):=bA P (i:=0) O rfl;have q:f.aC.toNat < u.methods.length:=by omega
 have G:=(e.form)
 obtain⟨p',Wz,q2',d',p,_,S,_⟩:=G;simp only[List.cons.injEq,Value.slice.injEq,true_and,and_true]at p;obtain⟨⟨rfl,rfl⟩,rfl,rfl⟩:=p;have F:=S.get q;obtain⟨bb,off,ms,T,H,m⟩:=F;have R:aY u f.aC=u.methods[f.aC.toNat]:=fm q O;have J:=m;obtain⟨Y,y,p2,z,p3,A,p4,C,K,_⟩:=m.form;subst K;have I:=bG c.le H;have s:0+(((fs.length+1:Nat):Int)-1).toNat*4=fs.length*4:=by omega
 have LQ:rd h a (0+(((fs.length+1:Nat):Int)-1).toNat*4)=some (.int .i64 f.aC):=by rw[s];exact r2
 refine bT aB func95 ZE U rfl ?_;conv=>whnf
 repeat' ((first|refine ld w ?_|refine ld LQ ?_|refine aP T ?_|refine dh I ?_|refine ay ?_|refine av ?_|refine ptr ?_)<;>conv=>whnf)
 refine dn (Qu a (0+(((fs.length+1:Nat):Int)-1).toNat*4) bm [.int .i64 u.methods[f.aC.toNat].cls,.int .i64 u.methods[f.aC.toNat].er,.slice Y u.methods[f.aC.toNat].args.length y,.int .i64 u.methods[f.aC.toNat].out,.int .i64 u.methods[f.aC.toNat].locals,.slice p2 u.methods[f.aC.toNat].code.length z,.slice p3 u.methods[f.aC.toNat].aT.length A,.slice p4 u.methods[f.aC.toNat].catches.length C]
  [.slice X u.aq.length D,.slice q' u.methods.length E]) rfl (λb h1 o hh g Q=>?_)
 conv=>whnf
 have L:=c.mono g;refine⟨g,b,a,_,rfl,o,⟨L,d,⟨s,j,aW g w⟩,⟨_,_,_,Q,e,by rw[R];exact J⟩,λW=>?_⟩⟩;obtain⟨aa,t⟩:=c.in b W;rw[o]at t;cases t
end Go.Proofs
