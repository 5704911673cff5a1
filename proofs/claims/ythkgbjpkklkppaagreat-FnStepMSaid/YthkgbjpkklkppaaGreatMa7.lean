/- Part 7 of the lemmas on which the law rests: what functions of the program and of the reference do; no conditions but those that each lemma states. -/
import Derived.Test.YthkgbjpkklkppaaGreatMa6
set_option linter.unusedSimpArgs false
set_option linter.unusedVariables false
namespace Go.Proofs
open Go.Vc Go.Proofs.Tryz
set_option maxRecDepth 100000
set_option maxHeartbeats 4000000
theorem fY.app {h0 h:Heap} {b c n bytes:Nat} {A:List dF} {zero:List Value} {w:TypeId} {vs:List Value} {s:dF} {K:Value->Heap->Prop} (a:fY h0 h b c A) (g:n=A.length) (o:jJ (bh h b) vs s) (S:A.length<=1000) (L:zero.length=3) (y:bytes<=100)
  (D:∀ d i h',fY h0 h' d i (A++[s])->(bh h b).le (bh h' d)->K (.slice (some ⟨d,0,none⟩) (A.length+1) i) h'):App bytes 3 zero w h (some ⟨b,0,none⟩) n c 1 vs K:=by
 subst g;obtain⟨j,H,g,I⟩:=a.row;have J:vs.length=3:=by obtain⟨_,_,rfl,_⟩:=o;rfl
 have z:dD vs=true:=by
  obtain⟨l,k,rfl,f,m⟩:=o;obtain⟨_,_,rfl,_⟩:=f.len;obtain⟨_,_,rfl,_⟩:=m.len;rfl
 have W:(j.length + [vs].length)*bytes<=1001*100:=Nat.mul_le_mul (by simp;omega) y;refine cX (h0:=h0) (xs:=j) (ys:=[vs]) (B:=[b]) H (by simpa using a.fr) a.le Z rfl (by simpa using J) z L O (by simp;omega) ?_;intro v' h' R M u N P Q;have v:=u;obtain⟨e,⟨_,F,_⟩|⟨d,i,rest,Y,rfl,V,T,_,rfl⟩⟩:=u
 ·simp at F
 have E:(j++[vs]).length=A.length+1:=by simp[g]
 rw[E]at v ⊢;have hle:(bh h b).le (bh h' d):=λx X e=>by
  unfold bh at e ⊢;split at e
  ·cases e
  rename_i t;have G:x≠d:=by
   rintro rfl;rcases Q x Z with f|f
   ·exact t (by simpa using f)
   rw[f]at e;cases e
  rw[if_neg G,P x (by simpa using t) (by rw[e];simp)];exact e
 refine D d i h' ⟨M,N d Z,j++[vs],by simpa using v,by simp[g],λp f m=>?_⟩ hle;by_cases q:p < A.length
 ·rw[List.getElem_append_left O,List.getElem_append_left q];exact(I p O q).le hle
 have C:p=A.length:=by simp at m;omega
 subst C;rw[List.getElem_append_right O,List.getElem_append_right O];simp only[g,Nat.sub_self,List.getElem_cons_zero];exact o.le hle
def kD (u:aS) (m:cu):Nat->Int->dF->Bool->List dF->List dF × Bool
 | 0,_,_,comes,out=>(out,!comes)
 | k+1,i,s,comes,out =>
  if (gy m i).told=true/\comes=true/\yF u.aq s (gy m i)=false then (out,false)
  else if (gy m i).told=false/\comes=false then (out,false)
  else match stepT u m (eS m i) (if (gy m i).told=true then gy m i else s)with
   | none=>(out++[if (gy m i).told=true then gy m i else s],false)
   | some a=>if mK u m i (if (gy m i).told=true then gy m i else s) a=true then kD u m k (i+1) a (!jq (eS m i)) (out++[if (gy m i).told=true then gy m i else s])else (out++[if (gy m i).told=true then gy m i else s],false)
def iI (u:aS) (m:cu):List dF × Bool:=kD u m m.code.length 0 (gL m) true []
def H8 (u:aS) (m:cu) (k:Nat) (i:Int) (s:dF) (out:List dF):List dF × Bool:=match stepT u m (eS m i) s with
 | none=>(out++[s],false)
 | some a=>if mK u m i s a=true then kD u m k (i+1) a (!jq (eS m i)) (out++[s])else (out++[s],false)
theorem yq {u:aS} {m:cu} {k:Nat} {i:Int} {s:dF} {comes:Bool} {out:List dF} (a:(gy m i).told=true):kD u m (k+1) i s comes out=if comes=true/\yF u.aq s (gy m i)=false then (out,false)else H8 u m k i (gy m i) out:=by
 rw[kD];simp[a,H8]
theorem z6 {u:aS} {m:cu} {k:Nat} {i:Int} {s:dF} {comes:Bool} {out:List dF} (a:(gy m i).told=false):kD u m (k+1) i s comes out=if comes=false then (out,false)else H8 u m k i s out:=by
 rw[kD];simp[a,H8]
theorem z7 (us ms:List Value) (u:aS) (m:cu) (h:Heap) (hu:cZ h us u) (hm:dO h ms m) (hV:D8 u) (E:QX u m) :
  bI prog 84 [.agg ⟨us⟩,.agg ⟨ms⟩] h
   λv h'=>h.le h'/\∃ sl,v=.tuple #[sl,.bool (iI u m).2]/\Row 3 jJ h' sl (iI u m).1:=by
 have oT:=hu;have PF:=hm;have ok:=hV.1;have vL:=ok.2.1;have we:=E.mi.head.2.2.2.2.1;have rG:=E.mi.len;have MM:=E.num;have mX:=E.mi.head.2.2.1;have vg:=λW (N:h.le W)=>pT us ms m u.aq.length W (hm.le N) E.mi.head vL;have Cb:=λat_ s e v aj W (N:h.le W) p P a hn hw=>Ca us ms u m at_ s e v aj W (hu.le N) (hm.le N) ok E p P a hn hw;have GZ:=λat_ s ad g L af W (N:h.le W) hI P p q=>sC us ms u m at_ s ad g L af W (hu.le N) (hm.le N) hV hI P we p q mX;obtain⟨ag,cc,ai,af,rfl,hcs,kS,ko,hl2⟩:=hu.form;obtain⟨p1,c1,p2,c2,p3,c3,p4,c4,rfl,k1,k2,k3,k4,k5,k6,k7,k8,d1,d2,d3,d4⟩:=hm.form;have fin:∀(ab:Heap) (g L n:Nat) (G0:List dF) (UX:Bool),fY h ab g L G0->n=G0.length->G0.length<=1000->iI u m=(G0,UX)->h.le ab/\∃ sl,Value.tuple #[.slice (some ⟨g,0,none⟩) n L,.bool UX]=.tuple #[sl,.bool (iI u m).2]/\Row 3 jJ ab sl (iI u m).1:=λab g L n G0 UX ad hn N ah=>by
  subst hn;rw[ah];exact⟨ad.le,_,rfl,ad.uZ N⟩
 refine bT aB func84 Zv U rfl ?_;conv=>whnf
 refine dn [] rfl (λb0 h1 CQ e0 l1 g0=>?_);conv=>whnf
 have o0:bW 3 h1 (.slice (some ⟨b0,0,none⟩) 0 0) [] [b0]:=⟨Z,.inr ⟨b0,0,[],_,rfl,Z,by simpa using g0,Z,rfl⟩⟩
 have a0:fY h h1 b0 0 []:=⟨l1,CQ,[],o0,rfl,λi hi _=>by simp at hi⟩
 obtain⟨o1,zl⟩:=a0.in;refine jf zl (vg _ a0.hle) (λv h2 l2 a=>?_);have a2:=a0.aJ l2;refine a.elim λq1 a=>a.elim λe1 a=>a.elim λq2 a=>a.elim λe2 a=>?_;have d:=a.1;subst d;have hI2:=a.2;conv=>whnf
 refine eu [2,3,6,7,8,9] [2,3,7] (λy:Nat × Heap × (Nat × Nat × List dF) × (dF × Option Addr × Nat × Option Addr × Nat) × Bool=>y.1<=m.code.length/\fY h y.2.1 y.2.2.1.1 y.2.2.1.2.1 y.2.2.1.2.2/\y.2.2.1.2.2.length=y.1/\oN (bh y.2.1 y.2.2.1.1) y.2.2.2.1.1 y.2.2.2.1.2.1 y.2.2.2.1.2.2.2.1 y.2.2.2.1.2.2.1 y.2.2.2.1.2.2.2.2/\qW u.aq.length m.locals y.2.2.2.1.1/\iI u m=kD u m (m.code.length-y.1) y.1 y.2.2.2.1.1 y.2.2.2.2 y.2.2.1.2.2) (λy=>m.code.length-y.1)
  (λy=>([.l 2 0,.l 3 0,.v (.slice (some ⟨y.2.2.1.1,0,none⟩) y.1 y.2.2.1.2.1),.l 7 0,.v (.bool y.2.2.2.2),.v (.int .i64 y.1)],
   [some [.slice ag u.aq.length cc,.slice ai u.methods.length af],some [.int .i64 m.cls,.int .i64 m.er,.slice p1 m.args.length c1,.int .i64 m.out,.int .i64 m.locals,.slice p2 m.code.length c2,.slice p3 m.aT.length c3,.slice p4 m.catches.length c4],some [.bool y.2.2.2.1.1.told,.slice y.2.2.2.1.2.1 y.2.2.2.1.1.locals.length y.2.2.2.1.2.2.1,.slice y.2.2.2.1.2.2.2.1 y.2.2.2.1.1.stack.length y.2.2.2.1.2.2.2.2]],y.2.1))
  (0,h2,(b0,0,[]),(gL m,q1,e1,q2,e2),true) ⟨O,a2,rfl,hI2,qX E.mi.head vL,rfl⟩ rfl ?_
 rintro⟨i,h3,⟨g,L,out⟩,⟨s,q3,e3,q4,e4⟩,comes⟩ ⟨hi,o,n3,KN,P,heq⟩;simp only at hi o n3 KN P heq ⊢;subst n3;conv=>whnf
 apply aD<;>intro ae;all_goals conv=>whnf
 ·have M:out.length < m.code.length:=by omega
  have Nq:out.length < m.aT.length:=by omega
  obtain⟨bs,os,lp,lc,kp,kc,J1,f1,f2,hJ⟩:=GY k7 Nq;have PS:gy m (out.length:Int)=m.aT[out.length]:=mJ (by simpa using Nq);have V:=E.val _ (List.getElem_mem Nq);have Jl:=gv o.le _ _ _ f1;have UY:=aW o.le f2;have UZ:=hJ.le o.hle;have IP:m.code.length-out.length=(m.code.length-(out.length+1))+1:=by omega
  rw[IP]at heq;have Q:=λj=>yq (u:=u) (m:=m) (k:=m.code.length-(out.length+1)) (i:=out.length) (s:=s) (comes:=comes) (out:=out) j;have Cc:=λj=>z6 (u:=u) (m:=m) (k:=m.code.length-(out.length+1)) (i:=out.length) (s:=s) (comes:=comes) (out:=out) j;rw[<-heq,PS]at Q Cc;generalize m.aT[out.length]=r at Jl UY UZ V Q Cc;obtain⟨o3,PU⟩:=o.in;have mW:=λj:r.told=true=>yj ag u.aq.length cc u.aq s r q3 q4 lp kp e3 e4 lc kc h3 (hcs.le o.le (λ_ _ q=>q.le o.le)) ok (KN.le (eV h3 g)) (UZ.le (eV h3 g)) (by have:=(V j).loc;have:=P.loc;omega) (λaa j=>(P.nK aa j).2) (λaa j=>(P.cA aa j).2) (λaa h2=>((V j).nK aa h2).2) (λaa h2=>((V j).cA aa h2).2);have nL:=λj:r.told=true=>vc r lp kp lc kc (bh h3 g) UZ (by have:=(V j).loc;omega) (by have:=(V j).len;omega);repeat' ((first|refine aP J1 ?_|refine ld UY ?_|refine ay ?_|refine av ?_|refine ptr ?_)<;>conv=>whnf)
  generalize hrt:r.told=rt at Jl UY mW Q Cc nL V ⊢;cases rt
  ·have Cc:=Cc rfl;cases comes
   ·conv=>whnf
    exact fin h3 g L _ out false o rfl O Cc
   have b:iI u m=H8 u m (m.code.length-(out.length+1)) out.length s out:=Cc;have aH:=o;have D:=KN;have K:=P;conv=>whnf
   have q:=E.mi.code _ (List.getElem_mem M);have p:0<=(out.length:Int)/\(out.length:Int) < m.code.length:=⟨O,ae⟩
   have G:eS m (out.length:Int)=m.code[out.length]:=mJ (by simpa using M);refine(fY.app aH rfl (vY.of D) O rfl (Nat.le_of_ble_eq_true rfl) (λc x R t l5=>?_));have AH:ej u m (m.code.getD (out.length:Int).toNat dj):=by show ej u m (eS m (out.length:Int));rw[G];exact q
   have H:=GZ out.length s q3 q4 e3 e4 (bh R c) t.hle (D.le l5) K p AH;have T:dW u.aq.length m.locals s (stepT u m (eS m (out.length:Int)) s):=q7 hV K (by rw[G];exact q);obtain⟨o5,vG⟩:=t.in;unfold H8 at b;change bI _ _ _ _ (λv h'=>(bh R c).le h'/\qT h' v (stepT u m (eS m (out.length:Int)) s))at H
   generalize stepT u m (eS m (out.length:Int)) s=res at H T b;conv=>whnf
   refine jf vG H (λv B l6 a=>?_);have f:=t.aJ l6;cases res with
   | none =>
    refine a.elim λw1 a=>a.elim λw2 a=>a.elim λw3 a=>a.elim λw4 a=>a.elim λw5 a=>a.elim λw6 a=>a.elim λw7 d=>?_;subst d;conv=>whnf
    exact fin B c x _ (out++[s]) false f Z (by simp;omega) b
   | some e =>
    have X:=(T e rfl).1;refine a.elim λI a=>a.elim λz a=>a.elim λJ a=>a.elim λA a=>?_;have d:=a.1;subst d;have S:oN (bh B c) e I J z A:=a.2;have Y:=Cb out.length s e _ _ (bh B c) f.hle p K ⟨q3,e3,q4,e4,rfl,(D.le l5).le (bV c l6)⟩ X ⟨I,z,J,A,rfl,S⟩;simp only at b;generalize mK u m (out.length:Int) s e=pt at Y b;obtain⟨o6,AK⟩:=f.in;conv=>whnf
    refine jf AK Y (λv C l7 d=>?_);subst d;have w:=f.aJ l7;cases pt
    ·conv=>whnf
     exact fin C c x _ (out++[s]) false w Z (by simp;omega) b
    rw[if_pos rfl]at b;obtain⟨bi,oi,vi,Jn,w1,w2,w3⟩:=k6.get M;subst w2;have GV:=gv w.le _ _ _ w1;have F:=lF m.code[out.length].kind m.code[out.length].a m.code[out.length].b C;change Pure _ _ _ _ (.bool (jq m.code[out.length]))at F
    rw[G]at b;generalize jq m.code[out.length]=en at F b;conv=>whnf
    repeat' ((first|refine aP Jn ?_|refine dh GV ?_|refine ax F ?_|refine ay ?_|refine av ?_|refine ptr ?_)<;>conv=>whnf)
    exact cT (out.length+1,C,(c,x,out++[s]),(e,I,z,J,A),!en) ⟨by simp only;omega,w,Z,S.le (bV c l7),X,b⟩ (by simp only;omega) rfl
  have Q:=Q rfl;have K:=V rfl;have mW:=mW rfl;have nL:=nL rfl;cases comes
  ·have b:iI u m=H8 u m (m.code.length-(out.length+1)) out.length r out:=Q;conv=>whnf
   repeat' ((first|exact trivial|apply And.intro|refine ay ?_|refine aP J1 ?_|refine dh Jl ?_)<;>conv=>whnf)
   all_goals
    refine jf PU nL (λv h4 l4 a=>?_);have aH:=o.aJ l4;refine a.elim λx1 a=>a.elim λy1 a=>a.elim λx2 a=>a.elim λy2 a=>?_;have d:=a.1;subst d;have D:oN (bh h4 g) r x1 x2 y1 y2:=a.2;conv=>whnf
    have q:=E.mi.code _ (List.getElem_mem M);have p:0<=(out.length:Int)/\(out.length:Int) < m.code.length:=⟨O,ae⟩
    have G:eS m (out.length:Int)=m.code[out.length]:=mJ (by simpa using M);refine(fY.app aH rfl (vY.of D) O rfl (Nat.le_of_ble_eq_true rfl) (λc x R t l5=>?_));have AH:ej u m (m.code.getD (out.length:Int).toNat dj):=by show ej u m (eS m (out.length:Int));rw[G];exact q
    have H:=GZ out.length r x1 x2 y1 y2 (bh R c) t.hle (D.le l5) K p AH;have T:dW u.aq.length m.locals r (stepT u m (eS m (out.length:Int)) r):=q7 hV K (by rw[G];exact q);obtain⟨o5,vG⟩:=t.in;unfold H8 at b;change bI _ _ _ _ (λv h'=>(bh R c).le h'/\qT h' v (stepT u m (eS m (out.length:Int)) r))at H
    generalize stepT u m (eS m (out.length:Int)) r=res at H T b;conv=>whnf
    refine jf vG H (λv B l6 a=>?_);have f:=t.aJ l6;cases res with
    | none =>
     refine a.elim λw1 a=>a.elim λw2 a=>a.elim λw3 a=>a.elim λw4 a=>a.elim λw5 a=>a.elim λw6 a=>a.elim λw7 d=>?_;subst d;conv=>whnf
     exact fin B c x _ (out++[r]) false f Z (by simp;omega) b
    | some e =>
     have X:=(T e rfl).1;refine a.elim λI a=>a.elim λz a=>a.elim λJ a=>a.elim λA a=>?_;have d:=a.1;subst d;have S:oN (bh B c) e I J z A:=a.2;have Y:=Cb out.length r e _ _ (bh B c) f.hle p K ⟨x1,y1,x2,y2,rfl,(D.le l5).le (bV c l6)⟩ X ⟨I,z,J,A,rfl,S⟩;simp only at b;generalize mK u m (out.length:Int) r e=pt at Y b;obtain⟨o6,AK⟩:=f.in;conv=>whnf
     refine jf AK Y (λv C l7 d=>?_);subst d;have w:=f.aJ l7;cases pt
     ·conv=>whnf
      exact fin C c x _ (out++[r]) false w Z (by simp;omega) b
     rw[if_pos rfl]at b;obtain⟨bi,oi,vi,Jn,w1,w2,w3⟩:=k6.get M;subst w2;have GV:=gv w.le _ _ _ w1;have F:=lF m.code[out.length].kind m.code[out.length].a m.code[out.length].b C;change Pure _ _ _ _ (.bool (jq m.code[out.length]))at F
     rw[G]at b;generalize jq m.code[out.length]=en at F b;conv=>whnf
     repeat' ((first|refine aP Jn ?_|refine dh GV ?_|refine ax F ?_|refine ay ?_|refine av ?_|refine ptr ?_)<;>conv=>whnf)
     exact cT (out.length+1,C,(c,x,out++[r]),(e,I,z,J,A),!en) ⟨by simp only;omega,w,Z,S.le (bV c l7),X,b⟩ (by simp only;omega) rfl
  generalize yF u.aq s r=inb at mW Q;cases inb
  ·conv=>whnf
   repeat' ((first|exact trivial|exact fin h3 g L _ out false o rfl O Q|apply And.intro|refine ay ?_|refine aP J1 ?_|refine dh Jl ?_|refine aO mW ?_)<;>conv=>whnf)
  have b:iI u m=H8 u m (m.code.length-(out.length+1)) out.length r out:=Q;conv=>whnf
  repeat' ((first|exact trivial|apply And.intro|refine ay ?_|refine aP J1 ?_|refine dh Jl ?_|refine aO mW ?_)<;>conv=>whnf)
  all_goals
   refine jf PU nL (λv h4 l4 a=>?_);have aH:=o.aJ l4;refine a.elim λx1 a=>a.elim λy1 a=>a.elim λx2 a=>a.elim λy2 a=>?_;have d:=a.1;subst d;have D:oN (bh h4 g) r x1 x2 y1 y2:=a.2;conv=>whnf
   have q:=E.mi.code _ (List.getElem_mem M);have p:0<=(out.length:Int)/\(out.length:Int) < m.code.length:=⟨O,ae⟩
   have G:eS m (out.length:Int)=m.code[out.length]:=mJ (by simpa using M);refine(fY.app aH rfl (vY.of D) O rfl (Nat.le_of_ble_eq_true rfl) (λc x R t l5=>?_));have AH:ej u m (m.code.getD (out.length:Int).toNat dj):=by show ej u m (eS m (out.length:Int));rw[G];exact q
   have H:=GZ out.length r x1 x2 y1 y2 (bh R c) t.hle (D.le l5) K p AH;have T:dW u.aq.length m.locals r (stepT u m (eS m (out.length:Int)) r):=q7 hV K (by rw[G];exact q);obtain⟨o5,vG⟩:=t.in;unfold H8 at b;change bI _ _ _ _ (λv h'=>(bh R c).le h'/\qT h' v (stepT u m (eS m (out.length:Int)) r))at H
   generalize stepT u m (eS m (out.length:Int)) r=res at H T b;conv=>whnf
   refine jf vG H (λv B l6 a=>?_);have f:=t.aJ l6;cases res with
   | none =>
    refine a.elim λw1 a=>a.elim λw2 a=>a.elim λw3 a=>a.elim λw4 a=>a.elim λw5 a=>a.elim λw6 a=>a.elim λw7 d=>?_;subst d;conv=>whnf
    exact fin B c x _ (out++[r]) false f Z (by simp;omega) b
   | some e =>
    have X:=(T e rfl).1;refine a.elim λI a=>a.elim λz a=>a.elim λJ a=>a.elim λA a=>?_;have d:=a.1;subst d;have S:oN (bh B c) e I J z A:=a.2;have Y:=Cb out.length r e _ _ (bh B c) f.hle p K ⟨x1,y1,x2,y2,rfl,(D.le l5).le (bV c l6)⟩ X ⟨I,z,J,A,rfl,S⟩;simp only at b;generalize mK u m (out.length:Int) r e=pt at Y b;obtain⟨o6,AK⟩:=f.in;conv=>whnf
    refine jf AK Y (λv C l7 d=>?_);subst d;have w:=f.aJ l7;cases pt
    ·conv=>whnf
     exact fin C c x _ (out++[r]) false w Z (by simp;omega) b
    rw[if_pos rfl]at b;obtain⟨bi,oi,vi,Jn,w1,w2,w3⟩:=k6.get M;subst w2;have GV:=gv w.le _ _ _ w1;have F:=lF m.code[out.length].kind m.code[out.length].a m.code[out.length].b C;change Pure _ _ _ _ (.bool (jq m.code[out.length]))at F
    rw[G]at b;generalize jq m.code[out.length]=en at F b;conv=>whnf
    repeat' ((first|refine aP Jn ?_|refine dh GV ?_|refine ax F ?_|refine ay ?_|refine av ?_|refine ptr ?_)<;>conv=>whnf)
    exact cT (out.length+1,C,(c,x,out++[r]),(e,I,z,J,A),!en) ⟨by simp only;omega,w,Z,S.le (bV c l7),X,b⟩ (by simp only;omega) rfl
 have he:out.length=m.code.length:=by omega
 rw[he,Nat.sub_self]at heq;exact fin h3 g L _ out _ o rfl O heq
def Bytes (h:Heap) (v:Value) (n:Nat):Prop:=∃ p c,v=.slice p n c/\n<=c/\(n=0\/∃ b a,p=some ⟨b,a,none⟩/\∀ i,i < n->∃ x:Int,rd h b (a+i)=some (.int .u8 x)/\0<=x/\x < 256)
theorem Heap.set_set (h:Heap) (b:Nat) (o a:Obj):(Heap.set h b o).set b a=Heap.set h b a:=by
 funext c;simp only[Heap.set];split<;>rfl
theorem rd_some {h:Heap} {b off:Nat} {v:Value} (c:rd h b off=some v):h b≠none:=by
 intro a;simp[rd,a]at c
theorem Bytes.set {h:Heap} {v:Value} {n a:Nat} (b:Bytes h v n) (g:h a=none) (o:Obj):Bytes (h.set a o) v n:=by
 obtain⟨t,e,rfl,i,b⟩:=b;refine⟨t,e,rfl,i,b.imp id ?_⟩;rintro⟨c,s,rfl,p⟩;refine⟨c,s,rfl,λq j=>?_⟩;obtain⟨x,d,f⟩:=p q j;have m:c≠a:=by rintro rfl;exact rd_some d g
 exact⟨x,by rw[kq m];exact d,f⟩
def cN (h:Heap) (a:Nat) (vb:Value) (p:Int):Heap:=h.set a (.cells #[vb,.int .i64 p] 64)
theorem Dc {a b:Int} (h:0<=a) (c:0 < b):0<=a.tmod b/\a.tmod b < b:=by
 rw[Int.tmod_eq_emod_of_nonneg h];exact⟨Int.emod_nonneg _ O,Int.emod_lt_of_pos _ c⟩
theorem tM {a b:Int} (h:0<=a) (c:0 < b):0<=a.tdiv b/\a.tdiv b<=a:=by
 rw[Int.tdiv_eq_ediv_of_nonneg h];exact⟨Int.ediv_nonneg h O,Int.ediv_le_self _ h⟩
theorem Cd {a b:Int} (d:0<=a) (f:a < 9223372036854775808) (g:0<=b) (h:b < 9223372036854775808):0<=sK .xor .i64 a b:=by
 unfold sK;simp only;have i:(BitVec.ofInt IntKind.i64.bits a ^^^ BitVec.ofInt IntKind.i64.bits b).toNat < 2 ^ 63:=by
  rw[BitVec.toNat_xor];have e:∀ z:Int,0<=z->z < 9223372036854775808->(BitVec.ofInt IntKind.i64.bits z).toNat < 2 ^ 63:=by
   intro z c j;rw[BitVec.toNat_ofInt];show(z % ((2 ^ 64:Nat):Int)).toNat < 2 ^ 63;rw[Int.emod_eq_of_lt c O];omega
  exact Nat.xor_lt_two_pow (e a d f) (e b g h)
 rw[wrap_i64 O O];omega
theorem MN (c n:Nat) (vb:Value) (p k:Int) (h:Heap) (D:h c=none) (e:Bytes h vb n) (V:0<=p) (W:p<=1000000000000) (T:n<=1000000000000) :
  bI prog 12 [.pointer (some ⟨c,0,none⟩),.int .i64 k] (cN h c vb p) λv h'=>∃ x,v=.int .i64 x/\0<=x/\(1<=k->x < k)/\(k < 1->x=0)/\h'=cN h c vb (p+1):=by
 refine bT aB func12 Yv U rfl ?_;have t:(cN h c vb p) c=some (.cells #[vb,.int .i64 p] 64):=by simp[cN,Heap.set]
 have s:=e.set D (.cells #[vb,.int .i64 p] 64);change Bytes (cN h c vb p) vb n at s
 have G:∀ q,(cN h c vb p).set c (.cells #[vb,.int .i64 q] 64)=cN h c vb q:=λq=>Heap.set_set _ _ _ _;have J:=G (p+1);clear G e D;generalize cN h c vb (p+1)=Q at *;generalize cN h c vb p=h at *;subst J;have e:=s;clear s;obtain⟨q,f,rfl,_,e⟩:=e;conv=>whnf
 refine ld (v:=.int .i64 p) (by simp[rd,t]) ?_;conv=>whnf
 refine av ?_;conv=>whnf
 refine st t Z ?_;conv=>whnf
 apply aD<;>intro I;all_goals conv=>whnf
 ·exact⟨0,rfl,O,O,O,rfl⟩
 refine ld (v:=.slice q n f) (by simp[rd,Heap.set,dU,HS]) ?_;conv=>whnf
 apply aD<;>intro B;all_goals conv=>whnf
 ·exact⟨0,rfl,O,O,O,rfl⟩
 have F:rd (h.set c (.cells (dU #[Value.slice q n f,.int .i64 p].toList (0+1) [.int .i64 (p+1)]).toArray 64)) c (0+1)=some (.int .i64 (p+1)):=by simp[rd,Heap.set,dU,HS]
 have w:rd (h.set c (.cells (dU #[Value.slice q n f,.int .i64 p].toList (0+1) [.int .i64 (p+1)]).toArray 64)) c 0=some (.slice q n f):=by simp[rd,Heap.set,dU,HS]
 rcases e with e|⟨b,g,rfl,e⟩
 ·exact absurd O B
 have K:∀ i,i < n->∃ x:Int,rd (h.set c (.cells (dU #[Value.slice (some ⟨b,g,none⟩) n f,.int .i64 p].toList (0+1) [.int .i64 (p+1)]).toArray 64)) b (g+i)=some (.int .u8 x)/\0<=x/\x < 256:=by
  intro i L;obtain⟨x,d,C⟩:=e i L;have M:b≠c:=by
   intro E;subst E;simp only[rd,t]at d;match E:g+i,d with
   | 0,d=>simp at d
   | 1,d=>simp at d
   | m+2,d=>simp at d
  exact⟨x,by rw[kq M];exact d,C⟩
 have u:∀ i:Int,0<=i->i < n->∃ x:Int,rd (h.set c (.cells (dU #[Value.slice (some ⟨b,g,none⟩) n f,.int .i64 p].toList (0+1) [.int .i64 (p+1)]).toArray 64)) b (g+i.toNat*1)=some (.int .u8 x)/\0<=x/\x < 256:=by
  intro i C R;rw[Nat.mul_one];exact K i.toNat O
 have S:h.set c (.cells (dU #[Value.slice (some ⟨b,g,none⟩) n f,.int .i64 p].toList (0+1) [.int .i64 (p+1)]).toArray 64)=h.set c (.cells #[.slice (some ⟨b,g,none⟩) n f,.int .i64 (p+1)] 64):=rfl;refine ld F ?_;conv=>whnf
 refine av ?_;conv=>whnf
 refine ld w ?_;conv=>whnf
 apply aD<;>intro d;all_goals conv=>whnf
 ·refine ld w ?_;conv=>whnf
  refine ay ?_;conv=>whnf
  obtain⟨x,A,H,N⟩:=u (p+1-1) O O;refine ptr ?_;conv=>whnf
  refine ld A ?_;conv=>whnf
  refine av ?_;conv=>whnf
  refine ay ?_;conv=>whnf
  have j:x.tmod k=x % k:=Int.tmod_eq_emod_of_nonneg H;exact⟨x.tmod k,rfl,by rw[j];exact Int.emod_nonneg _ O,λh=>by rw[j];exact Int.emod_lt_of_pos _ O,O,rfl⟩
 have t1:=Dc (a:=p+1-1) (b:=n) O O;have t2:=Dc (a:=(p+1-1)*7+3) (b:=n) O O;have t3:=tM (a:=p+1-1) (b:=n) O O;obtain⟨x,A,H,N⟩:=u _ t1.1 t1.2;obtain⟨y,P,X,Y⟩:=u _ t2.1 t2.2;have t4:=tM (a:=x*131+y*1117+(p+1-1)*29+(p+1-1).tdiv n*53) (b:=64) O O;repeat' ((first
  | refine ld w ?_
  | refine ld F ?_
  | refine av ?_
  | refine ay ?_
  | refine ptr ?_
  | refine ld A ?_
  | refine ld P ?_)<;>conv=>whnf)
 have j:∀ z:Int,0<=z->z.tmod k=z % k:=λz o=>Int.tmod_eq_emod_of_nonneg o;have o:0<=sK .xor .i64 (x*131+y*1117+(p+1-1)*29+(p+1-1).tdiv n*53) ((x*131+y*1117+(p+1-1)*29+(p+1-1).tdiv n*53).tdiv 64):=by
  refine Cd O O ?_ ?_
  ·exact(tM O O).1
  have:=(tM (a:=x*131+y*1117+(p+1-1)*29+(p+1-1).tdiv n*53) (b:=64) O O).2;omega
 exact⟨_,rfl,by rw[j _ o];exact Int.emod_nonneg _ O,λh=>by rw[j _ o];exact Int.emod_lt_of_pos _ O,O,rfl⟩
theorem nR (g:Heap) (a:Nat) (vb:Value) (p:Int):∃ o,cN g a vb p a=some o:=⟨_,by unfold cN;exact cB _ _ _⟩
theorem fP {g:Heap} {a b:Nat} {vb:Value} {p:Int} (h:b≠a):cN g a vb p b=g b:=by unfold cN;simp[Heap.set,h]
theorem q8 {g:Heap} {a:Nat} {vb:Value} {p:Int} (b:g a=none):bh (cN g a vb p) a=g:=by
 funext x
 unfold bh;by_cases e:x=a
 ·rw[if_pos e,e,b]
 rw[if_neg e,fP e]
theorem lH {h:Heap} {g:Heap} {a:Nat} {vb:Value} {p:Int} (b:h a=cN g a vb p a):h=cN (bh h a) a vb p:=by
 funext x
 by_cases e:x=a
 ·rw[e,b];unfold cN;rw[cB,cB]
 rw[fP e];unfold bh;rw[if_neg e]
theorem aX {g:Heap} {a:Nat} {vb:Value} {p:Int} (b:g a=none):g.le (cN g a vb p):=Heap.aR (Heap.le_refl g) b
theorem Bytes.le {h h':Heap} (i:h.le h') {v:Value} {n:Nat} (a:Bytes h v n):Bytes h' v n:=by
 obtain⟨p,c,rfl,f,a⟩:=a;refine⟨p,c,rfl,f,a.imp id ?_⟩;rintro⟨b,o,rfl,j⟩;refine⟨b,o,rfl,λm g=>?_⟩;obtain⟨x,d,e⟩:=j m g;exact⟨x,aW i d,e⟩
structure bz (g:Heap) (bb:Nat) (vb:Value) (p:Int):Prop where
 free:g bb=none
 bytes:∃ n,Bytes g vb n/\n<=2000
 lo:0<=p
theorem bz.to {g b:Heap} {a:Nat} {vb:Value} {p q:Int} (r:bz g a vb p) (f:g.le b) (e:b a=none) (h:p<=q):bz b a vb q :=
 ⟨e,by obtain⟨n,c,d⟩:=r.bytes;exact⟨n,c.le f,d⟩,by have:=r.lo;omega⟩
theorem bz.on {g:Heap} {a:Nat} {vb:Value} {p q:Int} (r:bz g a vb p) (b:p<=q):bz g a vb q:=r.to (Heap.le_refl g) r.free b
def Dr (P:Program) (f:FuncId) (args:List Value) (g:Heap) (b:Nat) (vb:Value) (p k:Int) (A:Heap->Value->Prop):Prop :=
 bI P f args (cN g b vb p) λv c=>∃ a q,c=cN a b vb q/\g.le a/\a b=none/\p<=q/\q<=p+k/\A a v
theorem fq {P:Program} {f:FuncId} {args:List Value} {g:Heap} {b:Nat} {vb:Value} {p k:Int} {A:Heap->Value->Prop} {K:Value->Heap->Prop} {E:List PanicEntry->Heap->Prop} (r:bz g b vb p) (j:Dr P f args g b vb p k A)
  (o:∀ v a q,g.le a->bz a b vb q->p<=q->q<=p+k->A a v->K v (cN a b vb q)):Go.Vc.Call P f args (cN g b vb p) K E :=
 aG j λv s m=>by
  obtain⟨a,q,rfl,d,i,c,e,h⟩:=m;exact o v a q d (r.to d i c) c e h
theorem bB {g:Heap} {a:Nat} {vb:Value} {p k:Int} {K:Value->Heap->Prop} {E:List PanicEntry->Heap->Prop} (r:bz g a vb p) (j:p<=1000000000)
  (c:∀ x,0<=x->(1<=k->x < k)->(k < 1->x=0)->bz g a vb (p+1)->K (.int .i64 x) (cN g a vb (p+1))):Go.Vc.Call prog 12 [.pointer (some ⟨a,0,none⟩),.int .i64 k] (cN g a vb p) K E:=by
 obtain⟨n,b,i⟩:=r.bytes;refine aG (MN a n vb p k g r.free b r.lo O O) ?_;rintro v h ⟨x,rfl,d,e,f,rfl⟩;exact c x d e f (r.on O)
theorem Jo {P:Program} {f:FuncId} {args:List Value} {g:Heap} {b:Nat} {vb:Value} {p:Int} {R:Value->Heap->Prop} {K:Value->Heap->Prop} {E:List PanicEntry->Heap->Prop} (r:bz g b vb p) (d:bI P f args g λv a=>g.le a/\R v a)
  (h:∀ v a,g.le a->bz a b vb p->R v a->K v (cN a b vb p)):Go.Vc.Call P f args (cN g b vb p) K E:=by
 obtain⟨o,i⟩:=nR g b vb p;have e:bI P f args (bh (cN g b vb p) b) λv a=>g.le a/\R v a:=by rw[q8 r.free];exact d
 refine aG (lG i e) λv j c=>?_;rw[lH c.1];exact h v _ c.2.1 (r.to c.2.1 (by simp[bh]) (Int.le_refl _)) c.2.2
theorem Dd {P:Program} {f:FuncId} {args:List Value} {g:Heap} {c:Nat} {vb:Value} {p:Int} {R:Value->Heap->Prop} {K:Value->Heap->Prop} {E:List PanicEntry->Heap->Prop} (r:bz g c vb p) (e:bI P f args g λv a=>g.le a/\R v a)
  (i:∀ v a,g.le a->bz a c vb p->R v a->K v (cN a c vb p)):Go.Vc.fE P f args (cN g c vb p) K E:=by
 obtain⟨o,j⟩:=nR g c vb p;have h:bI P f args (bh (cN g c vb p) c) λv a=>g.le a/\R v a:=by rw[q8 r.free];exact e
 refine cO (lG j h) λv m d=>⟨?_,?_⟩
 ·refine yl (b:=c) ?_ d.1;rw[q8 r.free];exact d.2.1
 rw[lH d.1];exact i v _ d.2.1 (r.to d.2.1 (by simp[bh]) (Int.le_refl _)) d.2.2
theorem MO {P:Program} {f:FuncId} {args:List Value} {g:Heap} {a:Nat} {vb:Value} {p:Int} {x:Value} {K:Value->Heap->Prop} {E:List PanicEntry->Heap->Prop} (r:bz g a vb p) (d:Pure P f args g x) (h:K x (cN g a vb p)):Go.Vc.Call P f args (cN g a vb p) K E:=by
 obtain⟨o,i⟩:=nR g a vb p;have e:bI P f args (bh (cN g a vb p) a) λv c=>v=x/\c=g:=by rw[q8 r.free];exact d
 refine aG (lG i e) λv j b=>?_;rw[lH b.1,b.2.2,b.2.1];exact h
theorem jg {g:Heap} {a:Nat} {vb:Value} {p:Int} {cs:List Value} {t:TypeId} {K:Nat->Heap->Prop} (i:List Value) (r:bz g a vb p) (m:cs=i) (q:∀ b e,g b=none->b≠a->g.le e->bz e a vb p->e b=some (.cells i.toArray t (0,0))->K b (cN e a vb p)):EF (cN g a vb p) cs t K:=by
 subst m;refine new λb d=>?_;have c:b≠a:=by
  rintro rfl;obtain⟨u,s⟩:=nR g b vb p;rw[s]at d;cases d
 rw[fP c]at d;have o:(cN g a vb p).set b (.cells cs.toArray t)=cN (g.set b (.cells cs.toArray t)) a vb p:=by
  funext x
  unfold cN;simp only[Heap.set];by_cases h:x=b
  ·have:x≠a:=by rw[h];exact c
   simp[h,c]
  simp[h]
 rw[o];have j:g.le (g.set b (.cells cs.toArray t)):=Heap.aR (Heap.le_refl g) d;exact q b _ d c j (r.to j (by simp[Heap.set,λf=>c (Eq.symm f),r.free];intro f;exact absurd f.symm c) (Int.le_refl _)) (cB _ _ _)
theorem bW.cN {sz:Nat} {g:Heap} {a:Nat} {vb:Value} {p:Int} {v:Value} {xs:List (List Value)} {B:List Nat} (b:g a=none) (c:bW sz g v xs B):bW sz (Go.Proofs.cN g a vb p) v xs B:=c.aJ (cD.of_le (aX b) _)
theorem bW.PV {sz:Nat} {h:Heap} {a:Nat} {v:Value} {xs:List (List Value)} {B:List Nat} (c:a ∉ B) (e:bW sz h v xs B):bW sz (bh h a) v xs B:=e.aJ λb d o f=>by
 have:b≠a:=by rintro rfl;exact c d
 unfold bh;rw[if_neg this];exact f
theorem kK {bytes sz:Nat} {zero:List Value} {D:TypeId} {g0 g:Heap} {a:Nat} {vb:Value} {q:Int} {p:Option Addr} {n cap:Nat} {xs ys:List (List Value)} {B:List Nat} {m:Nat} {vs:List Value} {K:Value->Heap->Prop} {W:Int}
  (X:bz g0 a vb W) (r:bz g a vb q) (w:bW sz g (.slice p n cap) xs B) (F:∀ b∈B,g0 b=none) (hle:g0.le g) (P:vs=ys.flatten) (N:m=ys.length) (Q:∀ y∈ys,y.length=sz) (L:dD vs=true) (R:zero.length=sz)
  (G:(xs.length+ys.length)*bytes<=2 ^ 44) (H:xs.length+ys.length<=2 ^ 44)
  (M:∀ h d B',g0.le d->bz d a vb q->bW sz d h (xs++ys) B'->(∀ b∈B',g0 b=none)->(∀ b,b ∉ B->g b≠none->d b=g b)->(∀ b∈B',b∈B\/g b=none)->K h (cN d a vb q)):App bytes sz zero D (cN g a vb q) p n cap m vs K:=by
 have t:a ∉ B:=λf=>by obtain⟨s,c⟩:=w.in a f;rw[r.free]at c;cases c
 have E:g0 a=none:=by
  cases f:g0 a with
  | none=>rfl
  | some s=>have:=hle a s f;rw[r.free]at this;cases this
 refine cX (h0:=g0) (w.cN r.free) F (Heap.le_trans hle (aX r.free)) P N Q L R G H ?_;intro h i B' S T V x z;obtain⟨s,o⟩:=nR g a vb q;have J:i a=cN g a vb q a:=x a t (by rw[o];simp);have I:a ∉ B':=λf=>by
  rcases z a f with c|c
  ·exact t c
  rw[o]at c;cases c
 rw[lH J];have u:g0.le (bh i a):=qY S E;have other:∀ b,b ∉ B->g b≠none->bh i a b=g b:=λb j v=>by
  have e:b≠a:=by rintro rfl;exact v r.free
  unfold bh;rw[if_neg e,x b j (by rw[fP e];exact v),fP e]
 refine M h _ B' u ⟨by simp[bh],by obtain⟨n,A,C⟩:=X.bytes;exact⟨n,A.le u,C⟩,r.lo⟩ (T.PV I) V other λb j=>?_;rcases z b j with c|c
 ·exact .inl c
 have e:b≠a:=by rintro rfl;rw[o]at c;cases c
 rw[fP e]at c;exact .inr c
theorem wU {g:Heap} {a:Nat} {vb:Value} {p:Int} (r:bz g a vb p) (m:p<=100000000) :
  Dr prog 80 [.pointer (some ⟨a,0,none⟩)] g a vb p 2 λd v=>d=g/\∃ x:Int,v=.int .i64 x/\-128<=x/\x<=127:=by
 refine bT aB func80 Zt U rfl ?_;conv=>whnf
 refine bB r O (λx o q s c=>?_);conv=>whnf
 apply aD<;>intro e;all_goals conv=>whnf
 ·refine bB c O (λy h i j b=>?_);have f:y=0\/y=1\/y=2\/y=3\/y=4\/y=5:=by omega
  rcases f with rfl|rfl|rfl|rfl|rfl|rfl;all_goals
   conv=>whnf
   refine ay ?_;conv=>whnf
   exact⟨_,_,rfl,Heap.le_refl g,b.free,O,O,⟨rfl,_,rfl,O,O⟩⟩
 refine bB c O (λy h i j b=>?_);conv=>whnf
 refine av ?_;conv=>whnf
 exact⟨_,_,rfl,Heap.le_refl g,b.free,O,O,⟨rfl,_,rfl,O,O⟩⟩
theorem mL {g:Heap} {a:Nat} {vb:Value} {p:Int} (n:Int) (r:bz g a vb p) (e:p<=100000000) (d:1<=n/\n<=1000) :
  Dr prog 88 [.pointer (some ⟨a,0,none⟩),.int .i64 n] g a vb p 2 λb v=>b=g/\∃ t:Int,v=.int .i64 t/\cL n t:=by
 refine bT aB func88 Zy U rfl ?_;conv=>whnf
 refine bB r O (λx h i j c=>?_);conv=>whnf
 repeat' ((first|exact⟨_,_,rfl,Heap.le_refl g,r.free,O,O,⟨rfl,_,rfl,by unfold cL;omega⟩⟩|apply aD<;>intro _|refine av ?_|refine bB c O (λy m o q f=>?_))<;>conv=>whnf)
theorem oH {g:Heap} {b:Nat} {vb:Value} {p:Int} (n:Int) (r:bz g b vb p) (y:p<=90000000) (s:1<=n/\n<=1000) :
  Dr prog 37 [.pointer (some ⟨b,0,none⟩),.int .i64 n] g b vb p 4 λc v=>c=g/\∃ t:Int,v=.int .i64 t/\-1<=t/\t<=8+n:=by
 refine bT aB func37 YO U rfl ?_;conv=>whnf
 refine bB r O (λA B C D f=>?_);conv=>whnf
 have i:∀ q,bz g b vb q->q<=100000000->_:=λq x u=>mL n x u s;repeat' ((first|exact⟨_,_,rfl,Heap.le_refl g,r.free,O,O,⟨rfl,_,rfl,O⟩⟩|apply aD<;>intro _)<;>conv=>whnf)
 ·refine bB f O (λE F G H h=>?_);conv=>whnf
  apply aD<;>intro _;all_goals conv=>whnf
  ·refine av ?_;conv=>whnf
   refine bB h O (λz I J K a=>?_);have w:z=0\/z=1\/z=2\/z=3:=by omega
   rcases w with rfl|rfl|rfl|rfl;all_goals
    conv=>whnf
    refine ay ?_;conv=>whnf
    exact⟨_,_,rfl,Heap.le_refl g,a.free,O,O,⟨rfl,_,rfl,O,O⟩⟩
  refine fq h (i _ h O) (λv c q o a j m d=>?_);obtain⟨rfl,t,rfl,e⟩:=d;conv=>whnf
  exact⟨_,_,rfl,Heap.le_refl _,a.free,O,O,⟨rfl,_,rfl,by unfold cL at e;omega⟩⟩
 refine fq f (i _ f O) (λv c q o a j m d=>?_);obtain⟨rfl,t,rfl,e⟩:=d;conv=>whnf
 exact⟨_,_,rfl,Heap.le_refl _,a.free,O,O,⟨rfl,_,rfl,by unfold cL at e;omega⟩⟩
def lI (h:Heap) (x:List Value) (c:dH) (B:List Nat):Prop:=∃ v,x=[.int .i64 c.bO,v]/\dI h v c.fields B
theorem oY:Kept lI:=λ_ _ _ _ _ c d=>by
 obtain⟨v,a,b⟩:=d;exact⟨v,a,b.aJ c⟩
theorem U0:Iz lI:=λ_ _ _ _ b=>by
 obtain⟨v,c,a⟩:=b;exact a.in
theorem Jp {z:Type} {R:Heap->List Value->z->List Nat->Prop} (s:Kept R) (w:Iz R) {bytes sz:Nat} {zero:List Value} {G:TypeId} {g0 g:Heap} {c:Nat} {vb:Value} {q0 q:Int} {p:Option Addr} {n cap:Nat} {l:List z} {a:z} {B Bi:List Nat} {m:Nat} {vs:List Value} {K:Value->Heap->Prop}
  (r0:bz g0 c vb q0) (r:bz g c vb q) (t:dR R sz g (.slice p n cap) l B) (D:R g vs a Bi) (V:Nd (B++Bi)) (I:∀ b∈B++Bi,g0 b=none) (hle:g0.le g) (T:m=1) (X:vs.length=sz) (P:dD vs=true) (Y:zero.length=sz)
  (J:(l.length+1)*bytes<=2 ^ 44) (L:l.length+1<=2 ^ 44)
  (S:∀ v i B',g0.le i->bz i c vb q->dR R sz i v (l++[a]) B'->Nd B'->(∀ b∈B',g0 b=none)->Ev g i (B++Bi) B'->K v (cN i c vb q)):App bytes sz zero G (cN g c vb q) p n cap m vs K:=by
 have H:g0 c=none:=by
  cases j:g0 c with
  | none=>rfl
  | some o=>have:=hle c o j;rw[r.free]at this;cases this
 have Q:∀ b∈B++Bi,∃ o,g b=some o:=λb e=>(List.mem_append.1 e).elim (t.in w b) (w _ _ _ _ D b);have A:c ∉ B++Bi:=λj=>by obtain⟨o,d⟩:=Q c j;rw[r.free]at d;cases d
 have x:=aX (vb:=vb) (p:=q) r.free;refine kZ s w (h0:=g0) (t.aJ s (cD.of_le x _)) (s _ _ _ _ _ (cD.of_le x _) D) V I (Heap.le_trans hle x) T X P Y J L ?_;intro v f B' k1 k2 k3 k4 u;obtain⟨o,y⟩:=nR g c vb q;have N:f c=cN g c vb q c:=u.qv c (by rw[y];simp) A;have M:c ∉ B':=λj=>by
  rcases u.new c j with d|d
  ·exact A d
  rw[y]at d;cases d
 have ne:∀ b,f b≠none->b≠c->bh f c b=f b:=λb _ h=>by unfold bh;rw[if_neg h]
 have kp:cD f (bh f c) B':=λb e o t=>by
  have:b≠c:=by rintro rfl;exact M e
  unfold bh;rw[if_neg this];exact t
 rw[lH N];have C:g0.le (bh f c):=qY k1 H;refine S v _ B' C ⟨by simp[bh],by obtain⟨n,E,F⟩:=r0.bytes;exact⟨n,E.le C,F⟩,r.lo⟩ (k2.aJ s kp) k3 k4 ⟨λb e W=>?_,λb e=>?_⟩
 ·have h:b≠c:=by rintro rfl;exact e r.free
  unfold bh;rw[if_neg h,u.qv b (by rw[fP h];exact e) W,fP h]
 rcases u.new b e with d|d
 ·exact .inl d
 have h:b≠c:=by rintro rfl;rw[y]at d;cases d
 rw[fP h]at d;exact .inr d
theorem q9 {j:TypeId} {g0 g:Heap} {d:Nat} {vb:Value} {G q:Int} {p:Option Addr} {n c m:Nat} {l k:List Int} {B:List Nat} {K:Value->Heap->Prop} (H:bz g0 d vb G) (r:bz g d vb q) (x:dI g (.slice p n c) l B) (o:∀ b∈B,g0 b=none) (u:g0.le g) (w:m=k.length) (i:l.length+k.length<=1000000)
  (t:∀ f e a B',g0.le a->bz a d vb q->dI a (.slice f (l++k).length e) (l++k) B'->(∀ b∈B',g0 b=none)->Ev g a B B'->K (.slice f (l++k).length e) (cN a d vb q)):App 8 1 [.int .i64 0] j (cN g d vb q) p n c m (k.map (Value.int .i64)) K:=by
 refine kK H r (xs:=l.map bP) (ys:=k.map bP) x o u (dy k).symm (by rw[w];simp) (λL y=>by obtain⟨J,_,rfl⟩:=List.mem_map.1 y;rfl) (di k) rfl (by simp;omega) (by simp;omega) ?_;intro I a B' z A C D E F;have h:dI a I (l++k) B':=by unfold dI;rw[List.map_append];exact C
 obtain⟨f,e,rfl,_⟩:=bW.form h;have v:((l++k).map bP).length=(l++k).length:=by simp
 rw[v]at h ⊢;exact t f e a B' z A h D ⟨λb s i=>E b i s,F⟩
theorem rj {g:Heap} {c:Nat} {vb:Value} {p:Int} (r:bz g c vb p) (hp:p<=80000000) :
  Dr prog 81 [.pointer (some ⟨c,0,none⟩)] g c vb p 100 λg' v=>∃ cs B,dR lI 2 g' v cs B/\Nd B/\(∀ b∈B,g b=none)/\cn cs:=by
 refine bT aB func81 G81 U rfl ?_;conv=>whnf
 refine bB r O (λx x0 x1 x2 r1=>?_);conv=>whnf
 refine av ?_;conv=>whnf
 refine jg [.int .i64 1] r1 rfl (λe g1 IA nbf l1 r2 I=>?_);conv=>whnf
 refine jg [.int .i64 (-1),.slice none 0 0,.int .i64 0,.slice (some ⟨e,0,none⟩) 1 1] r2 rfl (λd z QY NL l2 w e2=>?_);have aam:d≠e:=by rintro rfl;rw[QY]at I;cases I
 have o2:dR lI 2 z (.slice (some ⟨d,0,none⟩) 2 2) [⟨-1,[]⟩,⟨0,[1]⟩] ([d]++([]++([e]++[]))):=by
  refine⟨[[.int .i64 (-1),.slice none 0 0],[.int .i64 0,.slice (some ⟨e,0,none⟩) 1 1]],[d],_,gz Z rfl (by simpa using e2),.cons ⟨_,rfl,Z,.inl ⟨rfl,rfl,rfl⟩⟩ (.cons ⟨_,rfl,?_⟩ .nil),rfl⟩;exact gz (by simp[bP]) rfl (by rw[l2 e _ I];rfl)
 have NF:Nd ([d]++([]++([e]++[]))):=λa=>by
  simp only[List.nil_append,List.append_nil,List.count_append,List.count_cons,List.count_nil];by_cases M:d=a
  ·have:¬e=a:=by omega
   simp[M,this]
  simp[M];split<;>omega
 have f2:∀ b∈[d]++([]++([e]++[])),g b=none:=λb h=>by
  simp at h;rcases h with rfl|rfl
  ·exact eL l1 QY
  exact IA
 have Xx:∀ i (q:i < ([⟨-1,[]⟩,⟨0,[1]⟩]:List dH).length),uu (2+x).toNat i ([⟨-1,[]⟩,⟨0,[1]⟩]:List dH)[i]:=λi q=>by
  have KO:i=0\/i=1:=by simp at q;omega
  rcases KO with rfl|rfl
  ·exact⟨λt f=>by simp at f,λ_=>⟨rfl,rfl⟩,λo=>O,λo=>O,Z⟩
  exact⟨λt f=>by simp at f;subst f;exact .inl rfl,λo=>O,λ_=>⟨rfl,rfl⟩,λo=>O,Z⟩
 generalize hcs:([⟨-1,[]⟩,⟨0,[1]⟩]:List dH)=QH at o2 Xx;have n2:QH.length=2:=by rw[<-hcs];rfl
 conv=>whnf
 refine eu [0,3,4,5] [] (λy:Heap × Int × (Option Addr × Nat) × List dH × List Nat=>(y.2.2.2.1.length:Int)<=2+x/\2<=y.2.2.2.1.length/\g.le y.1/\bz y.1 c vb y.2.1/\p<=y.2.1/\y.2.1<=p+1+10*y.2.2.2.1.length/\dR lI 2 y.1 (.slice y.2.2.1.1 y.2.2.2.1.length y.2.2.1.2) y.2.2.2.1 y.2.2.2.2/\Nd y.2.2.2.2/\(∀ b∈y.2.2.2.2,g b=none)/\∀ i (q:i < y.2.2.2.1.length),uu (2+x).toNat i y.2.2.2.1[i]) (λy=>5-y.2.2.2.1.length)
  (λy=>([.v (.pointer (some ⟨c,0,none⟩)),.v (.int .i64 (2+x)),.v (.slice y.2.2.1.1 y.2.2.2.1.length y.2.2.1.2),.v (.int .i64 y.2.2.2.1.length)],[],cN y.1 c vb y.2.1))
  (z,p+1,(some ⟨d,0,none⟩,2),QH,[d]++([]++([e]++[]))) ⟨by simp only;omega,by simp only;omega,Heap.le_trans l1 l2,w,by simp only;omega,by simp only;omega,by simp only;rw[n2];exact o2,NF,f2,Xx⟩ (by simp only;rw[n2];rfl) ?_
 rintro⟨g3,q3,⟨pa,ca⟩,cs,B⟩ ⟨Q,H7,R,w,IL,oL,C,V,f3,QZ⟩;simp only at Q H7 R w IL oL C V f3 QZ ⊢;conv=>whnf
 apply aD<;>intro g1;all_goals conv=>whnf
 ·refine bB w O (λF s0 s1 s2 r4=>?_);conv=>whnf
  refine bB r4 O (λk k0 k1 k2 r5=>?_);conv=>whnf
  have aan:=C.in U0;refine eu [0,3,4,5,6,7] [6] (λy:Heap × Int × Int × (Option Addr × Nat) × List Int × List Nat=>0<=y.2.2.1/\(y.2.2.2.2.1.length:Int)+y.2.2.1<=2/\g.le y.1/\bz y.1 c vb y.2.1/\p<=y.2.1/\y.2.1<=q3+2+2*y.2.2.2.2.1.length/\dR lI 2 y.1 (.slice pa cs.length ca) cs B/\dI y.1 (.slice y.2.2.2.1.1 y.2.2.2.2.1.length y.2.2.2.1.2) y.2.2.2.2.1 y.2.2.2.2.2/\Nd (B++y.2.2.2.2.2)/\(∀ b∈y.2.2.2.2.2,g b=none)/\fQ (2+x).toNat y.2.2.2.2.1) (λy=>y.2.2.1.toNat)
   (λy=>([.v (.pointer (some ⟨c,0,none⟩)),.v (.int .i64 (2+x)),.v (.slice pa cs.length ca),.v (.int .i64 cs.length),.l 6 0,.v (.int .i64 y.2.2.1)],[some [.int .i64 F,.slice y.2.2.2.1.1 y.2.2.2.2.1.length y.2.2.2.1.2]],cN y.1 c vb y.2.1))
   (g3,q3+1+1,k,(none,0),[],[]) ⟨k0,by simp only[List.length_nil];omega,R,r5,by simp only;omega,by simp only[List.length_nil];omega,C,⟨Z,.inl ⟨rfl,rfl,rfl⟩⟩,by simpa using V,Z,λt f=>by simp at f⟩ rfl ?_
  rintro⟨g6,X,k6,⟨fp,fc⟩,j,Bf⟩ ⟨NY,IP,S,E,qH,Ji,D,w6,A,f6,t6⟩;simp only at NY IP S E qH Ji D w6 A f6 t6 ⊢;conv=>whnf
  apply aD<;>intro z;all_goals conv=>whnf
  ·have Jf:=mL (2+x) E O O;have finish:∀ u t,bz g6 c vb u->X<=u->u<=X+2->cL (2+x) t->True:=λ_ _ _ _ _ _=>trivial;repeat' ((first|exact trivial|apply And.intro|refine fq E Jf (λv g7 u l7 r7 M h2 hA=>?_))<;>conv=>whnf)
   all_goals
    have hg7:=hA.1;refine hA.2.elim λt f=>?_;have P:=f.1;have KJ:=f.2;subst P;subst hg7;conv=>whnf
    refine q9 (k:=[t]) (g0:=g) r r7 w6 f6 S rfl (by simp;omega) (λW H L G T Y s f8 J=>?_);conv=>whnf
    refine av ?_;conv=>whnf
    have dis:∀ b∈B,b ∉ Bf:=λb h Q=>by
     have:=A b;have:=List.count_pos_iff.2 h;have:=List.count_pos_iff.2 Q;simp only[List.count_append]at *;omega
    have o6':=D.in U0;have m:(j++[t]).length=j.length+1:=by simp
    refine cT (L,u,k6-1,(W,H),j++[t],G) ⟨by simp only;omega,by simp only;omega,T,Y,by simp only;omega,by simp only;omega,D.aJ oY (J.aJ dis),s,A.swap s.nd (λb h=>(J.new b h).imp id (λhn hm=>by obtain⟨aa,ho⟩:=o6' b hm;rw[hn]at ho;cases ho)),f8,λt' ht'=>?_⟩ (by simp only;omega) rfl;rcases List.mem_append.1 ht' with N|N
    ·exact t6 t' N
    rw[List.mem_singleton.1 N];rw[show(((2+x).toNat:Nat):Int)=2+x by omega];exact KJ
  refine Jp oY U0 (a:=⟨F,j⟩) r E D ⟨_,rfl,w6⟩ A (λb h=>(List.mem_append.1 h).elim (f3 b) (f6 b)) S rfl rfl rfl rfl (Nat.le_trans (Nat.mul_le_mul_left _ (show _<=100 from Nat.le_of_ble_eq_true rfl)) O) O (λv L G T Y s nd8 f8 J=>?_);have K:=s.form;refine K.elim λW K=>K.elim λH hf=>?_;have P:=hf.1;subst P;conv=>whnf
  refine av ?_;conv=>whnf
  have m:(cs++[(⟨F,j⟩:dH)]).length=cs.length+1:=by simp
  refine cT (L,X,(W,H),cs++[⟨F,j⟩],G) ⟨by simp only[m];omega,by simp only[m];omega,T,Y,by simp only;omega,by simp only[m];omega,s,nd8,f8,λi q=>?_⟩ (by simp only[m];omega) (by simp only[m];rfl);by_cases lu:i < cs.length
  ·simp only[List.getElem_append_left lu];exact QZ i lu
  have vU:i=cs.length:=by simp only[m]at q;omega
  subst vU;simp only[List.getElem_append_right (Nat.le_refl _),Nat.sub_self,List.getElem_cons_zero];have:=s1 O;exact⟨t6,λo=>O,λo=>O,λ_=>⟨s0,this⟩,by show j.length<=2;omega⟩
 have hce:(2+x).toNat=cs.length:=by omega
 rw[hce]at QZ;exact⟨_,_,rfl,R,w.free,O,O,cs,B,C,V,f3,H7,O,QZ⟩
def oO (h:Heap) (v:Value) (l:List Int) (B:List Nat):Prop:=(v=.slice none 0 0/\l=[]/\B=[])\/∃ b r t,v=.slice (some ⟨b,0,none⟩) l.length (l++r).length/\h b=some (.cells ((l++r).map (Value.int .i64)).toArray t (0,0))/\(∀ x∈l++r,cH x)/\B=[b]
theorem oO.own {h:Heap} {v:Value} {l:List Int} {B:List Nat} (c:oO h v l B):dI h v l B:=by
 rcases c with ⟨rfl,rfl,rfl⟩|⟨b,r,t,rfl,a,_,rfl⟩
 ·exact⟨Z,.inl ⟨rfl,rfl,rfl⟩⟩
 refine⟨λx d=>by obtain⟨w,_,rfl⟩:=List.mem_map.1 d;rfl,.inr ⟨b,(l++r).length,r.map (Value.int .i64),t,Z,Z,?_,by rw[dy];simp,rfl⟩⟩;rw[dy,<-List.map_append];exact a
theorem oO.aJ {h h':Heap} {v:Value} {l:List Int} {B:List Nat} (f:cD h h' B) (g:oO h v l B):oO h' v l B:=by
 rcases g with d|⟨b,r,t,a,e,c,rfl⟩
 ·exact .inl d
 exact .inr ⟨b,r,t,a,f b Z _ e,c,rfl⟩
theorem PW {o:TypeId} {h0 h:Heap} {p:Option Addr} {n cap m:Nat} {l k:List Int} {B:List Nat} {K:Value->Heap->Prop} (M:oO h (.slice p n cap) l B) (t:∀ b∈B,h0 b=none) (hle:h0.le h) (L:m=k.length) (w:∀ x∈k,cH x) (A:l.length+k.length<=1000000)
  (s:∀ E h' B',h0.le h'->oO h' E (l++k) B'->(∀ b∈B',h0 b=none)->Ev h h' B B'->K E h'):App 8 1 [.int .i64 0] o h p n cap m (k.map (Value.int .i64)) K:=by
 subst L;have u:=di k;have v:∀ b,h b=none->h0 b=none:=λb a=>by
  cases G:h0 b with
  | none=>rfl
  | some x=>rw[hle b x G]at a;cases a
 have grow:∀ b c (r:List Int),h b=none->(l++k).length<=c->r=List.replicate (c-(l++k).length) 0->(∀ x∈l,cH x)->K (.slice (some ⟨b,0,none⟩) (l++k).length c) (h.set b (.cells ((l++k++r).map (Value.int .i64)).toArray o)):=λb c r a F z j=>by
  refine s _ _ [b] (Heap.aR hle (v b a)) (.inr ⟨b,r,o,?_,cB _ _ _,λx d=>?_,rfl⟩) (λe g=>by rw[List.mem_singleton.1 g];exact v b a) ⟨λe y _=>?_,λe g=>?_⟩
  ·rw[z];simp at F ⊢;omega
  ·simp only[List.mem_append]at d;rcases d with (d|d)|d
   ·exact j x d
   ·exact w x d
   rw[z]at d;rw[List.eq_of_mem_replicate d];unfold cH;omega
  ·have:e≠b:=by rintro rfl;exact y a
   simp[Heap.set,this]
  rw[List.mem_singleton.1 g];exact .inr a
 have J:(l++k).length=l.length+k.length:=by simp
 have C:∀ c,(List.replicate c [Value.int .i64 0]).flatten=(List.replicate c (0:Int)).map (Value.int .i64):=λc=>by
  induction c with
  | zero=>rfl
  | succ c P=>rw[List.replicate_succ,List.flatten_cons,P,List.replicate_succ,List.map_cons];rfl
 rw[lS];unfold xl;rcases M with ⟨i,rfl,rfl⟩|⟨b,r,D,i,a,d,rfl⟩
 ·simp only[Value.slice.injEq]at i;obtain⟨rfl,rfl,rfl⟩:=i;refine⟨λf=>⟨u,?_⟩,λf=>⟨O,O,[],⟨rfl,rfl⟩,λb c a q=>?_⟩⟩
  ·have H:k=[]:=List.eq_nil_of_length_eq_zero O;subst H;exact⟨rfl,s _ _ [] hle (.inl ⟨rfl,rfl,rfl⟩) Z (Ev.refl h [])⟩
  have:=grow b c (List.replicate (c-k.length) 0) a (by simpa using q) Z Z;simp only[List.nil_append,List.map_append]at this ⊢;rw[Nat.zero_add,C];exact this
 simp only[Value.slice.injEq]at i;obtain⟨rfl,rfl,rfl⟩:=i;have j:∀ x∈l,cH x:=λx h=>d x (by simp[h]);refine⟨λf=>⟨u,_,D,a,by simp at f ⊢;omega,?_⟩,λf=>⟨O,O,l.map (Value.int .i64),?_,λe c g q=>?_⟩⟩
 ·have I:k.length<=r.length:=by simp at f;omega
  have N:dU ((l++r).map (Value.int .i64)) (0+l.length*1) (k.map (Value.int .i64))=((l++k)++r.drop k.length).map (Value.int .i64):=by
   rw[Nat.zero_add,Nat.mul_one,List.map_append];have:=fK (k.map (Value.int .i64)) (l.map (Value.int .i64)) (r.map (Value.int .i64)) (by simpa using I);rw[List.length_map,List.length_map]at this;rw[this];simp
  refine s _ _ [b] (Heap.aR hle (t b Z)) (.inr ⟨b,r.drop k.length,D,?_,?_,λx h=>?_,rfl⟩) t ⟨λe y A=>?_,λe h=>.inl h⟩
  ·simp;omega
  ·rw[<-N];exact cB _ _ _
  ·simp only[List.mem_append]at h;rcases h with (h|h)|h
   ·exact j x h
   ·exact w x h
   exact d x (by simp[List.mem_of_mem_drop h])
  have:e≠b:=by rintro rfl;exact A Z
  simp[Heap.set,this]
 ·show dQ h b 0 (l.length*1)=some _;rw[bK a _ _ Z];simp
 have:=grow e c (List.replicate (c-(l.length+k.length)) 0) g (by simpa using q) Z j;simp only[List.map_append,List.append_assoc]at this ⊢;rw[C];rw[J]at this;exact this
theorem PX {g h':Heap} {a:Nat} {vb:Value} {q:Int} {B B':List Nat} (j:g a=none) (s:∀ b∈B,∃ o,g b=some o) (e:Ev (cN g a vb q) h' B B'):h'=cN (bh h' a) a vb q/\Ev g (bh h' a) B B'/\cD h' (bh h' a) B':=by
 obtain⟨o,h⟩:=nR g a vb q;have m:a ∉ B:=λi=>by obtain⟨o,c⟩:=s a i;rw[j]at c;cases c
 have u:h' a=cN g a vb q a:=e.qv a (by rw[h];simp) m;have t:a ∉ B':=λi=>by
  rcases e.new a i with c|c
  ·exact m c
  rw[h]at c;cases c
 refine⟨lH u,⟨λb p w=>?_,λb f=>?_⟩,λb f o v=>?_⟩
 ·have d:b≠a:=by rintro rfl;exact p j
  unfold bh;rw[if_neg d,e.qv b (by rw[fP d];exact p) w,fP d]
 ·rcases e.new b f with c|c
  ·exact .inl c
  have d:b≠a:=by rintro rfl;rw[h]at c;cases c
  rw[fP d]at c;exact .inr c
 have:b≠a:=by rintro rfl;exact t f
 unfold bh;rw[if_neg this];exact v
theorem bq {g0 g:Heap} {b:Nat} (c:g0.le g) (a:g b=none):g0 b=none:=by
 cases d:g0 b with
 | none=>rfl
 | some o=>have:=c b o d;rw[a]at this;cases this
theorem oO.in {h:Heap} {v:Value} {l:List Int} {B:List Nat} (a:oO h v l B):∀ b∈B,∃ o,h b=some o:=a.own.in
theorem oO.form {h:Heap} {v:Value} {l:List Int} {B:List Nat} (a:oO h v l B):∃ p c,v=.slice p l.length c:=by
 rcases a with ⟨rfl,rfl,_⟩|⟨b,r,t,rfl,_⟩
 ·exact⟨_,_,rfl⟩
 exact⟨_,_,rfl⟩
theorem Jq {z:TypeId} {g0 g:Heap} {a:Nat} {vb:Value} {M q:Int} {p:Option Addr} {n c m:Nat} {l k:List Int} {B:List Nat} {K:Value->Heap->Prop} (N:bz g0 a vb M) (r:bz g a vb q) (o:oO g (.slice p n c) l B) (C:∀ b∈B,g0 b=none) (h:g0.le g) (F:m=k.length) (D:∀ x∈k,cH x) (G:l.length+k.length<=1000000)
  (E:∀ f e d B',g0.le d->bz d a vb q->oO d (.slice f (l++k).length e) (l++k) B'->(∀ b∈B',g0 b=none)->Ev g d B B'->K (.slice f (l++k).length e) (cN d a vb q)):App 8 1 [.int .i64 0] z (cN g a vb q) p n c m (k.map (Value.int .i64)) K:=by
 have j:=aX (vb:=vb) (p:=q) r.free;refine PW (h0:=g0) (o.aJ (cD.of_le j _)) C (Heap.le_trans h j) F D G ?_;intro P A B' H I J L;obtain⟨v,w,y⟩:=PX r.free o.in L;have i:g0.le (bh A a):=qY H (bq h r.free);have s:=I.aJ y;obtain⟨f,e,rfl⟩:=s.form;rw[v];exact E f e _ B' i ⟨by simp[bh],by obtain⟨n,t,u⟩:=N.bytes;exact⟨n,t.le i,u⟩,r.lo⟩ s J w
def oP (h:Heap) (a:Value) (l:List Int):Prop:=∃ B,oO h a l B
def G2 (h0 h:Heap) (a:Value) (l:List Int):Prop:=∃ B,oO h a l B/\∀ b∈B,h0 b=none
theorem G2.U1 {h0 h:Heap} {a:Value} {l:List Int} (z:G2 h0 h a l):oP h a l:=by
 obtain⟨B,b,_⟩:=z;exact⟨B,b⟩
theorem G2.bh {h0 h:Heap} {a:Value} {l:List Int} {b:Nat} (z:G2 h0 h a l) (e:h0 b≠none):oP (bh h b) a l:=by
 obtain⟨B,c,d⟩:=z;refine⟨B,c.aJ λx g o f=>?_⟩;have:x≠b:=by rintro rfl;exact e (d _ g)
 unfold Go.Proofs.bh;rw[if_neg this];exact f
def dS (cls er:Int) (a:Value) (out b:Int):List Value:=[.int .i64 cls,.int .i64 er,a,.int .i64 out,.int .i64 b,.slice none 0 0,.slice none 0 0,.slice none 0 0]
theorem ry {h:Heap} {b:Nat} {vb:Value} {p:Int} (n:Nat) (r:bz h b vb p) (hp:p<=80000000) (hn:1<=n/\n<=1000) :
  Dr prog 122 [.pointer (some ⟨b,0,none⟩),.int .i64 n] h b vb p 10 λx v=>∃ a out l,v=.agg ⟨dS 0 0 a out 0⟩/\G2 h x a l/\l.length<=2/\fQ n l/\cL n out:=by
 refine bT aB func122 UO U rfl ?_;conv=>whnf
 refine fq r (mL n r O O) (λv d S l1 q B C e=>?_);obtain⟨rfl,out,rfl,c⟩:=e;conv=>whnf
 refine bB q O (λk M k1 k2 V=>?_);conv=>whnf
 refine eu [0,1,4,5,6] [4,5] (λy:Heap × Int × Int × (Option Addr × Nat) × List Int × List Nat=>0<=y.2.2.1/\(y.2.2.2.2.1.length:Int)+y.2.2.1<=2/\d.le y.1/\bz y.1 b vb y.2.1/\p<=y.2.1/\y.2.1<=p+4+2*y.2.2.2.2.1.length/\oO y.1 (.slice y.2.2.2.1.1 y.2.2.2.2.1.length y.2.2.2.1.2) y.2.2.2.2.1 y.2.2.2.2.2/\(∀ u∈y.2.2.2.2.2,d u=none)/\fQ n y.2.2.2.2.1) (λy=>y.2.2.1.toNat)
  (λy=>([.v (.pointer (some ⟨b,0,none⟩)),.v (.int .i64 n),.l 4 0,.l 5 0,.v (.int .i64 y.2.2.1)],[some (dS 0 0 (.slice none 0 0) 0 0),some (dS 0 0 (.slice y.2.2.2.1.1 y.2.2.2.2.1.length y.2.2.2.1.2) out 0)],cN y.1 b vb y.2.1))
  (d,S+1,k,(none,0),[],[]) ⟨M,by simp only[List.length_nil];omega,Heap.le_refl _,V,by simp only;omega,by simp only[List.length_nil];omega,.inl ⟨rfl,rfl,rfl⟩,Z,λt c=>by simp at c⟩ rfl ?_
 rintro⟨g6,q6,N,⟨fp,fc⟩,g,Bf⟩ ⟨F,G,j,f,H,I,m,f6,t6⟩;simp only at F G j f H I m f6 t6 ⊢;conv=>whnf
 apply aD<;>intro z;all_goals conv=>whnf
 ·have D:=mL n f O O;repeat' ((first|exact trivial|apply And.intro|refine fq f D (λv g7 T l7 W B C e=>?_))<;>conv=>whnf)
  all_goals
   have E:=e.1;refine e.2.elim λt c=>?_;have K:=c.1;have o:=c.2;subst K;subst E;conv=>whnf
   refine Jq (k:=[t]) (g0:=d) q W m f6 j rfl (λaa L=>by rw[List.mem_singleton.1 L];unfold cL at o;unfold cH;omega) (by simp;omega) (λR w A s P X Q f8 ev8=>?_);conv=>whnf
   refine av ?_;conv=>whnf
   have lf:(g++[t]).length=g.length+1:=by simp
   refine cT (A,T,N-1,(R,w),g++[t],s) ⟨by simp only;omega,by simp only;omega,P,X,by simp only;omega,by simp only;omega,Q,f8,λY J=>?_⟩ (by simp only;omega) rfl;rcases List.mem_append.1 J with i|i
   ·exact t6 Y i
   rw[List.mem_singleton.1 i];exact o
 exact⟨_,_,rfl,j,f.free,O,O,_,_,_,rfl,⟨_,m,f6⟩,O,t6,c⟩
def MP {c:Type} (R:Heap->List Value->c->Prop):Prop:=∀(h b:Heap) (x:List Value) (a:c),h.le b->R h x a->R b x a
structure rz {α:Type} (sz:Nat) (R:Heap->List Value->α->Prop) (h0 h:Heap) (b c:Nat) (A:List α):Prop where
 le:h0.le h
 fr:h0 b=none
 row:∃ recs,bW sz h (.slice (some ⟨b,0,none⟩) A.length c) recs [b]/\recs.length=A.length/\∀ i (h1:i < recs.length) (h2:i < A.length),R (bh h b) recs[i] A[i]
variable {α:Type} {sz:Nat} {R:Heap->List Value->α->Prop} {h0 h h':Heap} {b c:Nat} {A:List α}
theorem rz.in (a:rz sz R h0 h b c A):∃ o,h b=some o:=by
 obtain⟨e,d,_⟩:=a.row;exact d.in b Z
theorem rz.aJ (g:MP R) (a:rz sz R h0 h b c A) (d:h.le h'):rz sz R h0 h' b c A:=by
 obtain⟨p,j,i,m⟩:=a.row;exact⟨Heap.le_trans a.le d,a.fr,p,j.aJ (cD.of_le d _),i,λo e f=>g _ _ _ _ (bV b d) (m o e f)⟩
theorem rz.at (a:rz sz R h0 h b c A) {i:Nat} (B:i < A.length) :
  ∃ vs,dQ h b (0+i*sz) sz=some vs/\vs.length=sz/\R (bh h b) vs A[i] /\
   ∃ pre post t,h b=some (.cells (pre++vs++post).toArray t (0,0))/\pre.length=i*sz /\
   ∀(o:List Value) (s:α) (e:Heap),o.length=sz->e=h.set b (.cells (pre++o++post).toArray t (0,0))->R (bh h b) o s->bh e b=bh h b/\rz sz R h0 e b c (A.set i s):=by
 obtain⟨d,E,D,w⟩:=a.row;have u:i < d.length:=by omega
 have C:d=d.take i++d[i]::d.drop (i+1):=by simp
 have F:bW sz h (.slice (some ⟨b,0,none⟩) A.length c) (d.take i++d[i]::d.drop (i+1)) [b]:=by rw[<-C];exact E
 obtain⟨M,N,pre,post,x,v,p,G,m,P,L⟩:=F.at;simp only[Value.slice.injEq,Option.some.injEq,Addr.mk.injEq]at v;obtain⟨⟨rfl,_⟩,_,rfl⟩:=v;have j:pre.length=i*sz:=by rw[G,List.length_take,Nat.min_eq_left O]
 refine⟨d[i],?_,m,w i u B,pre,post,x,p,j,λvs s g J f H=>?_⟩
 ·rw[bK p sz (0+i*sz) (by simp[j,m])];rw[List.append_assoc,Nat.zero_add,<-j,List.drop_left,List.take_left' m]
 have q:bh g b=bh h b:=by rw[f,uY]
 have y:g b=some (.cells (pre++vs++post).toArray x (0,0)):=by rw[f];exact cB _ _ _
 have I:d.set i vs=d.take i++vs::d.drop (i+1):=by rw[List.set_eq_take_append_cons_drop,if_pos u]
 refine⟨q,?_,a.fr,d.set i vs,?_,by simp[D],λK z e=>?_⟩
 ·rw[f];exact Heap.aR a.le a.fr
 ·rw[I,List.length_set];exact L g vs y J
 rw[q];simp only[List.getElem_set];split
 ·exact H
 exact w K (by simpa using z) (by simpa using e)
theorem rz.kK (p:MP R) {f:Nat} {vb:Value} {Q q:Int} {n bytes:Nat} {zero:List Value} {y:TypeId} {vs:List Value} {s:α} {K:Value->Heap->Prop} (S:bz h0 f vb Q) (r:bz h f vb q) (a:rz sz R h0 h b c A) (g:n=A.length) (N:R (bh h b) vs s) (M:vs.length=sz) (D:dD vs=true) (hA:A.length<=1000) (P:zero.length=sz) (C:bytes<=1000)
  (F:∀ d i h',rz sz R h0 h' d i (A++[s])->(bh h b).le (bh h' d)->bz h' f vb q->K (.slice (some ⟨d,0,none⟩) (A.length+1) i) (cN h' f vb q)):App bytes sz zero y (cN h f vb q) (some ⟨b,0,none⟩) n c 1 vs K:=by
 subst g;obtain⟨m,J,g,L⟩:=a.row;have hm:(m.length + [vs].length)*bytes<=1001*1000:=Nat.mul_le_mul (by simp;omega) C;refine Go.Proofs.kK S r (xs:=m) (ys:=[vs]) (B:=[b]) J (by simpa using a.fr) a.le Z rfl (by simpa using M) D P O (by simp;omega) ?_;intro v' h' B' T Y v V W X;have w:=v;obtain⟨e,⟨_,H,_⟩|⟨d,i,rest,ab,rfl,hc,HV,_,rfl⟩⟩:=v
 ·simp at H
 have G:(m++[vs]).length=A.length+1:=by simp[g]
 rw[G]at w ⊢;have hle:(bh h b).le (bh h' d):=λx aa e=>by
  unfold bh at e ⊢;split at e
  ·cases e
  rename_i u;have I:x≠d:=by
   rintro rfl;rcases X x Z with j|j
   ·exact u (by simpa using j)
   rw[j]at e;cases e
  rw[if_neg I,W x (by simpa using u) (by rw[e];simp)];exact e
 refine F d i h' ⟨T,V d Z,m++[vs],by simpa using w,by simp[g],λo j z=>?_⟩ hle Y;by_cases t:o < A.length
 ·rw[List.getElem_append_left O,List.getElem_append_left t];exact p _ _ _ _ hle (L o O t)
 have E:o=A.length:=by simp at z;omega
 subst E;rw[List.getElem_append_right O,List.getElem_append_right O];simp only[g,Nat.sub_self,List.getElem_cons_zero];exact p _ _ _ _ hle N
theorem yt {g:Heap} {a b:Nat} {vb:Value} {q:Int} {o:Obj} (h:b≠a):(cN g a vb q).set b o=cN (g.set b o) a vb q:=by
 funext x
 unfold cN;simp only[Heap.set];by_cases d:x=b
 ·have:x≠a:=by rw[d];exact h
  simp[d,h]
 simp[d]
theorem gS {g:Heap} {a b off:Nat} {vb:Value} {q:Int} {cs d vs:List Value} {t:TypeId} {K:Heap->Prop} (j:g a=none) (e:g b=some (.cells cs.toArray t (0,0))) (o:off+vs.length<=cs.length) (p:dU cs off vs=d)
  (m:K (cN (g.set b (.cells d.toArray t (0,0))) a vb q)):St (cN g a vb q) b off vs K:=by
 have f:b≠a:=by rintro rfl;rw[j]at e;cases e
 refine vI (h:=cN g a vb q) (b:=b) (by rw[fP f];exact e) d o p (λu i s=>?_);rw[i,yt f];exact m
def Q0 (h:Heap) (d:List Value) (m:cu):Prop:=∃ a,d=dS m.cls m.er a m.out m.locals/\oP h a m.args/\m.code=[]/\m.aT=[]/\m.catches=[]
theorem oP.le {h h':Heap} (e:h.le h') {a:Value} {l:List Int} (d:oP h a l):oP h' a l:=by
 obtain⟨B,d⟩:=d;exact⟨B,d.aJ (cD.of_le e _)⟩
theorem oP.ints {h:Heap} {a:Value} {l:List Int} (d:oP h a l) (i:l.length<=1000):cR h a l:=by
 obtain⟨B,d⟩:=d;rcases d with ⟨rfl,rfl,rfl⟩|⟨b,r,t,rfl,e,f,rfl⟩
 ·exact fO _ _ _
 refine j5 (rest:=r.map (Value.int .i64)) (t:=t) (fz:=(0,0)) ?_ O Z (λt g=>f t (by simp[g]));rw[<-List.map_append];exact e
theorem oP.form {h:Heap} {a:Value} {l:List Int} (d:oP h a l):∃ p c,a=.slice p l.length c:=by
 obtain⟨B,d⟩:=d;exact d.form
theorem jh:MP Q0:=λh h' x m g i=>by
 obtain⟨a,d,e,f⟩:=i;exact⟨a,d,e.le g,f⟩
theorem pU {L:List Value} {n:Nat} {K:List Value->Prop} (h:L.length=n) (a:K L):iY L (λvs=>match vs.length.beq n with
  | true=>K vs
  | false=>False):=by
 refine(bJ _ _).2 ?_;subst h;rw[Nat.beq_refl];exact a
theorem G3 {o:Option (List Value)} {cs:List Value} {K:List Value->Prop}:o=some cs->K cs->(match o with
  | some cs=>K cs
  | none=>False):=λa d=>by subst a;exact d
theorem Ed {e:Env} {ty:Nat->Option TI} {K:List (Nat × List Value)->Prop} (a:K []):parts e ty [] K:=a
theorem PY {z a d e:List Value} {k:Nat} (f:z.length=k) (g:a.length=k) (q:d.length=k) (s:e.length=k):lR (λi=>some (i*k)) (p7 3 z) [(0,a),(1,d),(2,e)]=some (a++d++e):=by
 have p:p7 3 z=[]++(z++(z++(z++[]))):=rfl;have t:dU (p7 3 z) (0*k) a=a++(z++z):=by
  rw[p];have:=fK a [] (z++(z++(z++[]))) (by simp;omega);simp only[List.length_nil]at this;rw[Nat.zero_mul,this,g,<-f,List.drop_left];simp
 have u:dU (a++(z++z)) (1*k) d=(a++d)++z:=by
  have:=fK d a (z++z) (by simp;omega);rw[Nat.one_mul,<-g,this,q,<-f,List.drop_left]
 have v:dU ((a++d)++z) (2*k) e=a++d++e:=by
  have:=fK e (a++d) z O;rw[show 2*k=(a++d).length by simp;omega,this,s,<-f,List.drop_length,List.append_nil]
 have j:(0*k+a.length).ble (p7 3 z).length=true:=Nat.ble_eq_true_of_le (by simp[p7];omega);have m:(1*k+d.length).ble (a++(z++z)).length=true:=Nat.ble_eq_true_of_le (by simp;omega);have o:(2*k+e.length).ble ((a++d)++z).length=true:=Nat.ble_eq_true_of_le (by simp;omega);simp only[lR,j,t,m,u,o,v]
def wV (n:Nat) (m:cu):Prop:=eW n m/\m.cls≠0
theorem Ce {K:Heap} {j:Nat} {vb:Value} {p:Int} (cp:Option Addr) (n cc:Nat) (r:bz K j vb p) (hp:p<=70000000) (hn:2<=n/\n<=5) :
  Dr prog 82 [.pointer (some ⟨j,0,none⟩),.slice cp n cc] K j vb p 200 λg' v=>∃ b c a,v=.slice (some ⟨b,0,none⟩) a.length c/\rz 8 Q0 K g' b c a/\1<=a.length/\a.length<=4/\∀ m∈a,wV n m:=by
 refine bT aB func82 G82 U rfl ?_;conv=>whnf
 refine fq r (ry n r O O) (λv g1 q1 l1 r1 h1 h2 L=>?_);obtain⟨a1,x,t,rfl,z1,n1,t1,f1⟩:=L;have z1:=z1.U1;have U2:(dS 0 0 a1 x 0).length=8:=rfl;generalize U3:dS 0 0 a1 x 0=L1 at U2;conv=>whnf
 refine fq r1 (ry n r1 O O) (λv g2 q2 l2 r2 h3 h4 L=>?_);obtain⟨a2,B,u,rfl,z2,n2,t2,f2⟩:=L;have z2:=z2.U1;have U4:(dS 0 0 a2 B 0).length=8:=rfl;generalize U5:dS 0 0 a2 B 0=L2 at U4;conv=>whnf
 refine fq r2 (ry n r2 O O) (λv g3 q3 l3 r3 h5 h6 L=>?_);obtain⟨N,Q,k3,rfl,z3,n3,t3,f3⟩:=L;have z3:=z3.U1;have U6:(dS 0 0 N Q 0).length=8:=rfl;generalize U7:dS 0 0 N Q 0=L3 at U6;conv=>whnf
 refine pU U2 ?_;conv=>whnf
 refine pU U4 ?_;conv=>whnf
 refine pU U6 ?_;refine Ed ?_;refine G3 (PY (k:=8) (z:=[.int .i64 0,.int .i64 0,.slice none 0 0,.int .i64 0,.int .i64 0,.slice none 0 0,.slice none 0 0,.slice none 0 0]) rfl U2 U4 U6) ?_;conv=>whnf
 refine(bJ _ _).2 ?_;conv=>whnf
 refine bB r3 O (λaa x0 x1 x2 r5=>?_);conv=>whnf
 refine av ?_;conv=>whnf
 refine jg (dS (-1) 0 (.slice none 0 0) 1 (1+aa)) r5 rfl (λW g5 FM nbm l5 S e5=>?_);conv=>whnf
 refine bB S O (λk kk0 kk1 kk2 r7=>?_);conv=>whnf
 subst U3 U5 U7;have l35:K.le g5:=Heap.le_trans l1 (Heap.le_trans l2 (Heap.le_trans l3 l5));have TN:K W=none:=bq (Heap.le_trans l1 (Heap.le_trans l2 l3)) FM;have a5:rz 8 Q0 K g5 W 1 [⟨-1,0,[],1,1+aa,[],[],[]⟩]:=⟨l35,TN,[dS (-1) 0 (.slice none 0 0) 1 (1+aa)],gz (by simp[dS]) rfl (by rw[e5];rfl),rfl,λi h1 h2=>by
  have h0:i=0:=by simp at h2;omega
  subst h0;exact⟨.slice none 0 0,rfl,⟨[],.inl ⟨rfl,rfl,rfl⟩⟩,rfl,rfl,rfl⟩⟩
 have hT5:∀ m∈[(⟨-1,0,[],1,1+aa,[],[],[]⟩:cu)],wV n m:=λm e=>by
  rw[List.mem_singleton.1 e];exact⟨⟨.inl ⟨rfl,rfl⟩,Z,.inl rfl,λab ht=>(by simp at ht),by simp only;omega,by simp[cj];omega⟩,Z⟩
 have Xy:g3.le (bh g5 W):=qY l5 FM;have O1:=z1.le (Heap.le_trans l2 (Heap.le_trans l3 Xy));have Xz:=z2.le (Heap.le_trans l3 Xy);clear z1 z2 z3;obtain⟨s1,d1,rfl⟩:=O1.form;obtain⟨s2,d2,rfl⟩:=Xz.form;refine eu [0,5,6,7,8] [25] (λy:Heap × Int × Int × (Nat × Nat) × List cu=>0<=y.2.2.1/\(y.2.2.2.2.length:Int)+y.2.2.1<=4/\(bh g5 W).le (bh y.1 y.2.2.2.1.1)/\bz y.1 j vb y.2.1/\p<=y.2.1/\y.2.1<=p+40+20*(3-y.2.2.1)/\rz 8 Q0 K y.1 y.2.2.2.1.1 y.2.2.2.1.2 y.2.2.2.2/\1<=y.2.2.2.2.length/\∀ m∈y.2.2.2.2,wV n m) (λy=>y.2.2.1.toNat)
  (λy=>([.v (.pointer (some ⟨j,0,none⟩)),.v (.int .i64 n),.r 25 3,.v (.slice (some ⟨y.2.2.2.1.1,0,none⟩) y.2.2.2.2.length y.2.2.2.1.2),.v (.int .i64 y.2.2.1)],[some (dS 0 0 (.slice s1 t.length d1) x 0++dS 0 0 (.slice s2 u.length d2) B 0++dS 0 0 N Q 0)],cN y.1 j vb y.2.1))
  (g5,q3+1+1,k,(W,1),[⟨-1,0,[],1,1+aa,[],[],[]⟩]) ⟨kk0,by simp only[List.length_singleton];omega,Heap.le_refl _,r7,by simp only;omega,by simp only;omega,a5,Z,hT5⟩ rfl ?_
 rintro⟨g6,q6,F,⟨f,P⟩,a⟩ ⟨NY,IP,G,S,qH,Ji,q,n6,t6⟩;simp only at NY IP G S qH Ji q n6 t6 ⊢;conv=>whnf
 apply aD<;>intro g2;all_goals conv=>whnf
 ·refine fq S (ry n S O O) (λv E o g r7 h7 h8 L=>?_);obtain⟨aN,G5,M,rfl,zN,nN,tN,fN⟩:=L;obtain⟨o6,AK⟩:=q.in;have XA:=zN.bh (b:=f) (by rw[AK];simp);obtain⟨sN,dN,rfl⟩:=XA.form;conv=>whnf
  refine bB r7 O (λad w0 w1 w2 r8=>?_);conv=>whnf
  apply aD<;>intro gw;all_goals conv=>whnf
  ·refine bB r8 O (λsl s0 s1' s2' J=>?_);have KI:sl=0\/sl=1:=by omega
   rcases KI with rfl|rfl
   ·conv=>whnf
    refine ay ?_;conv=>whnf
    refine av ?_;conv=>whnf
    refine bB J O (λD xx0 U8 xx2 CN=>?_);have AH:=U8 O;conv=>whnf
    refine av ?_;conv=>whnf
    refine bZ ?_;conv=>whnf
    repeat' ((first|exact trivial|apply And.intro|refine av ?_|refine bB CN O (λy y0 y1 y2 C=>?_))<;>conv=>whnf)
    all_goals
     obtain⟨d,I⟩:∃ z:Int,z=mn (1+t.length+y) 3:=⟨_,rfl⟩
     have G6:1+t.length<=d/\d<=3:=by rw[I];unfold mn;split<;>omega
     rw[<-I];conv=>whnf
     refine eu [0,5,6,7,8,9,12,13] [9,25] (λy:Nat × Bool=>y.1<=a.length) (λy=>a.length-y.1)
      (λy=>([.v (.pointer (some ⟨j,0,none⟩)),.v (.int .i64 n),.r 25 3,.v (.slice (some ⟨f,0,none⟩) a.length P),.v (.int .i64 F),.l 9 0,.v (.bool y.2),.v (.int .i64 y.1)],[some (dS (1+D) 0 (.slice s1 t.length d1) x d),some (dS 0 0 (.slice s1 t.length d1) x 0++dS 0 0 (.slice s2 u.length d2) B 0++dS 0 0 N Q 0)],cN E j vb (o+1+1+1+1)))
      (0,false) (by simp only;omega) rfl ?_
     rintro⟨i,again⟩ hi;simp only at hi ⊢;conv=>whnf
     apply aD<;>intro g8;all_goals conv=>whnf
     ·have lu:i < a.length:=by omega
      obtain⟨rec,Y,Ny,⟨am,G7,_⟩,_⟩:=(q.aJ jh g).at lu;have H:=gv (aX (vb:=vb) (p:=(o+1+1+1+1)) C.free) _ _ _ Y;subst G7;have rc:=aM H (i:=0) rfl;have rs:=aM H (i:=1) rfl;have PZ:rd (cN E j vb (o+1+1+1+1)) f (0+i*8)=_:=rc;cases again
      all_goals
       repeat' ((first|exact trivial|apply And.intro|apply aD<;>intro _|refine ay ?_|refine ptr ?_|refine ld PZ ?_|refine ld rs ?_)<;>conv=>whnf)
      all_goals
       refine av ?_;conv=>whnf
       first
       | exact cT (i+1,true) (by simp only;omega) (by simp only;omega) rfl
       | exact cT (i+1,false) (by simp only;omega) (by simp only;omega) rfl
       | (refine cT (i+1,_) (by simp only;omega) (by simp only;omega) rfl)
     have hT:wV n ⟨(1+D),0,t,x,d,[],[],[]⟩:=⟨⟨(.inr ⟨by simp only;omega,by simp only;omega,by simp only;omega,by simp only;omega⟩),n1,f1,t1,G6.2,by (simp[cj];split<;>simp<;>omega)⟩,by simp only;omega⟩
     cases again
     ·conv=>whnf
      refine(q.aJ jh g).kK jh (s:=⟨(1+D),0,t,x,d,[],[],[]⟩) r C rfl ⟨_,rfl,O1.le (Heap.le_trans G (bV f g)),rfl,rfl,rfl⟩ rfl rfl O rfl (Nat.le_of_ble_eq_true rfl) (λV X g9 T l9 J=>?_);conv=>whnf
      refine av ?_;conv=>whnf
      have w:(a++[(⟨(1+D),0,t,x,d,[],[],[]⟩:cu)]).length=a.length+1:=by simp
      refine cT (g9,(o+1+1+1+1),F-1,(V,X),a++[⟨(1+D),0,t,x,d,[],[],[]⟩]) ⟨by simp only;omega,by simp only[w];omega,Heap.le_trans G (Heap.le_trans (bV f g) l9),J,by simp only;omega,by simp only;omega,T,by simp only[w];omega,λm e=>?_⟩ (by simp only;omega) (by simp only[w];rfl);rcases List.mem_append.1 e with e|e
      ·exact t6 m e
      rw[List.mem_singleton.1 e];exact hT
     conv=>whnf
     refine av ?_;conv=>whnf
     exact cT (E,(o+1+1+1+1),F-1,(f,P),a) ⟨by simp only;omega,by simp only;omega,Heap.le_trans G (bV f g),C,by simp only;omega,by simp only;omega,q.aJ jh g,n6,t6⟩ (by simp only;omega) rfl
   conv=>whnf
   refine ay ?_;conv=>whnf
   refine av ?_;conv=>whnf
   refine bB J O (λD xx0 U8 xx2 CN=>?_);have AH:=U8 O;conv=>whnf
   refine av ?_;conv=>whnf
   refine bZ ?_;conv=>whnf
   repeat' ((first|exact trivial|apply And.intro|refine av ?_|refine bB CN O (λy y0 y1 y2 C=>?_))<;>conv=>whnf)
   all_goals
    obtain⟨d,I⟩:∃ z:Int,z=mn (1+u.length+y) 3:=⟨_,rfl⟩
    have G6:1+u.length<=d/\d<=3:=by rw[I];unfold mn;split<;>omega
    rw[<-I];conv=>whnf
    refine eu [0,5,6,7,8,9,12,13] [9,25] (λy:Nat × Bool=>y.1<=a.length) (λy=>a.length-y.1)
     (λy=>([.v (.pointer (some ⟨j,0,none⟩)),.v (.int .i64 n),.r 25 3,.v (.slice (some ⟨f,0,none⟩) a.length P),.v (.int .i64 F),.l 9 0,.v (.bool y.2),.v (.int .i64 y.1)],[some (dS (1+D) 1 (.slice s2 u.length d2) B d),some (dS 0 0 (.slice s1 t.length d1) x 0++dS 0 0 (.slice s2 u.length d2) B 0++dS 0 0 N Q 0)],cN E j vb (o+1+1+1+1)))
     (0,false) (by simp only;omega) rfl ?_
    rintro⟨i,again⟩ hi;simp only at hi ⊢;conv=>whnf
    apply aD<;>intro g8;all_goals conv=>whnf
    ·have lu:i < a.length:=by omega
     obtain⟨rec,Y,Ny,⟨am,G7,_⟩,_⟩:=(q.aJ jh g).at lu;have H:=gv (aX (vb:=vb) (p:=(o+1+1+1+1)) C.free) _ _ _ Y;subst G7;have rc:=aM H (i:=0) rfl;have rs:=aM H (i:=1) rfl;have PZ:rd (cN E j vb (o+1+1+1+1)) f (0+i*8)=_:=rc;cases again
     all_goals
      repeat' ((first|exact trivial|apply And.intro|apply aD<;>intro _|refine ay ?_|refine ptr ?_|refine ld PZ ?_|refine ld rs ?_)<;>conv=>whnf)
     all_goals
      refine av ?_;conv=>whnf
      first
      | exact cT (i+1,true) (by simp only;omega) (by simp only;omega) rfl
      | exact cT (i+1,false) (by simp only;omega) (by simp only;omega) rfl
      | (refine cT (i+1,_) (by simp only;omega) (by simp only;omega) rfl)
    have hT:wV n ⟨(1+D),1,u,B,d,[],[],[]⟩:=⟨⟨(.inr ⟨by simp only;omega,by simp only;omega,by simp only;omega,by simp only;omega⟩),n2,f2,t2,G6.2,by (simp[cj];split<;>simp<;>omega)⟩,by simp only;omega⟩
    cases again
    ·conv=>whnf
     refine(q.aJ jh g).kK jh (s:=⟨(1+D),1,u,B,d,[],[],[]⟩) r C rfl ⟨_,rfl,Xz.le (Heap.le_trans G (bV f g)),rfl,rfl,rfl⟩ rfl rfl O rfl (Nat.le_of_ble_eq_true rfl) (λV X g9 T l9 J=>?_);conv=>whnf
     refine av ?_;conv=>whnf
     have w:(a++[(⟨(1+D),1,u,B,d,[],[],[]⟩:cu)]).length=a.length+1:=by simp
     refine cT (g9,(o+1+1+1+1),F-1,(V,X),a++[⟨(1+D),1,u,B,d,[],[],[]⟩]) ⟨by simp only;omega,by simp only[w];omega,Heap.le_trans G (Heap.le_trans (bV f g) l9),J,by simp only;omega,by simp only;omega,T,by simp only[w];omega,λm e=>?_⟩ (by simp only;omega) (by simp only[w];rfl);rcases List.mem_append.1 e with e|e
     ·exact t6 m e
     rw[List.mem_singleton.1 e];exact hT
    conv=>whnf
    refine av ?_;conv=>whnf
    exact cT (E,(o+1+1+1+1),F-1,(f,P),a) ⟨by simp only;omega,by simp only;omega,Heap.le_trans G (bV f g),C,by simp only;omega,by simp only;omega,q.aJ jh g,n6,t6⟩ (by simp only;omega) rfl
  conv=>whnf
  repeat' ((first|exact trivial|apply And.intro|refine av ?_|refine bB r8 O (λy y0 y1 y2 C=>?_))<;>conv=>whnf)
  all_goals
   obtain⟨d,I⟩:∃ z:Int,z=mn (0+M.length+y) 3:=⟨_,rfl⟩
   have G6:0+M.length<=d/\d<=3:=by rw[I];unfold mn;split<;>omega
   rw[<-I];conv=>whnf
   refine eu [0,5,6,7,8,9,12,13] [9,25] (λy:Nat × Bool=>y.1<=a.length) (λy=>a.length-y.1)
    (λy=>([.v (.pointer (some ⟨j,0,none⟩)),.v (.int .i64 n),.r 25 3,.v (.slice (some ⟨f,0,none⟩) a.length P),.v (.int .i64 F),.l 9 0,.v (.bool y.2),.v (.int .i64 y.1)],[some (dS (-1) 0 (.slice sN M.length dN) G5 d),some (dS 0 0 (.slice s1 t.length d1) x 0++dS 0 0 (.slice s2 u.length d2) B 0++dS 0 0 N Q 0)],cN E j vb (o+1+1)))
    (0,false) (by simp only;omega) rfl ?_
   rintro⟨i,again⟩ hi;simp only at hi ⊢;conv=>whnf
   apply aD<;>intro g8;all_goals conv=>whnf
   ·have lu:i < a.length:=by omega
    obtain⟨rec,Y,Ny,⟨am,G7,_⟩,_⟩:=(q.aJ jh g).at lu;have H:=gv (aX (vb:=vb) (p:=(o+1+1)) C.free) _ _ _ Y;subst G7;have rc:=aM H (i:=0) rfl;have rs:=aM H (i:=1) rfl;have PZ:rd (cN E j vb (o+1+1)) f (0+i*8)=_:=rc;cases again
    all_goals
     repeat' ((first|exact trivial|apply And.intro|apply aD<;>intro _|refine ay ?_|refine ptr ?_|refine ld PZ ?_|refine ld rs ?_)<;>conv=>whnf)
    all_goals
     refine av ?_;conv=>whnf
     first
     | exact cT (i+1,true) (by simp only;omega) (by simp only;omega) rfl
     | exact cT (i+1,false) (by simp only;omega) (by simp only;omega) rfl
     | (refine cT (i+1,_) (by simp only;omega) (by simp only;omega) rfl)
   have hT:wV n ⟨(-1),0,M,G5,d,[],[],[]⟩:=⟨⟨(.inl ⟨rfl,rfl⟩),nN,fN,tN,G6.2,by (simp[cj];omega)⟩,by simp only;omega⟩
   cases again
   ·conv=>whnf
    refine(q.aJ jh g).kK jh (s:=⟨(-1),0,M,G5,d,[],[],[]⟩) r C rfl ⟨_,rfl,XA,rfl,rfl,rfl⟩ rfl rfl O rfl (Nat.le_of_ble_eq_true rfl) (λV X g9 T l9 J=>?_);conv=>whnf
    refine av ?_;conv=>whnf
    have w:(a++[(⟨(-1),0,M,G5,d,[],[],[]⟩:cu)]).length=a.length+1:=by simp
    refine cT (g9,(o+1+1),F-1,(V,X),a++[⟨(-1),0,M,G5,d,[],[],[]⟩]) ⟨by simp only;omega,by simp only[w];omega,Heap.le_trans G (Heap.le_trans (bV f g) l9),J,by simp only;omega,by simp only;omega,T,by simp only[w];omega,λm e=>?_⟩ (by simp only;omega) (by simp only[w];rfl);rcases List.mem_append.1 e with e|e
    ·exact t6 m e
    rw[List.mem_singleton.1 e];exact hT
   conv=>whnf
   refine av ?_;conv=>whnf
   exact cT (E,(o+1+1),F-1,(f,P),a) ⟨by simp only;omega,by simp only;omega,Heap.le_trans G (bV f g),C,by simp only;omega,by simp only;omega,q.aJ jh g,n6,t6⟩ (by simp only;omega) rfl
 exact⟨_,_,rfl,q.le,S.free,O,O,_,_,_,rfl,q,n6,O,t6⟩
def U9 (v:Value):Prop:=∃ k a b:Int,v=.agg #[.int .i64 k,.int .i64 a,.int .i64 b]/\(0<=k/\k<=24)/\¬(8<=k/\k<=11)/\k≠22/\(-1000<=a/\a<=1000)/\-1000<=b/\b<=1000
theorem G8 {g:Heap} {a:Nat} {vb:Value} {p:Int} {K:Value->Heap->Prop} {E:List PanicEntry->Heap->Prop} (r:bz g a vb p) (o:p<=100000000)
  (m:∀ x q,-128<=x->x<=127->bz g a vb q->p<=q->q<=p+2->K (.int .i64 x) (cN g a vb q)):Go.Vc.Call prog 80 [.pointer (some ⟨a,0,none⟩)] (cN g a vb p) K E :=
 fq r (wU r o) λv t q u s d e j=>by
  obtain⟨rfl,x,rfl,f,i⟩:=j;exact m x q f i s d e
theorem MQ {g:Heap} {d:Nat} {vb:Value} {p:Int} {K:Value->Heap->Prop} {E:List PanicEntry->Heap->Prop} {f:Option Addr} {n c:Nat} {cs:List dH} {x:Int} (r:bz g d vb p) (o:eD g (.slice f n c) cs) (ok:cn cs) (i:0<=x/\x < cs.length)
  (q:∀ a j e (k:Nat),g.le a->bz a d vb p->k<=100->K (.slice j k e) (cN a d vb p)):Go.Vc.Call prog 50 [.slice f n c,.int .i64 x] (cN g d vb p) K E :=
 Jo r (iy (x.toNat+1) f n c cs x g o ok i.1 i.2 O) λv a s t m=>by
  obtain⟨B,own,_⟩:=m;obtain⟨j,e,rfl,_⟩:=own.form;have:=ec ok i.2;exact q a j e _ s t (by simp;omega)
theorem z8 {g:Heap} {a:Nat} {vb:Value} {p:Int} (q i:List Value) (u:aS) (m:cu) (r:bz g a vb p) (hp:p<=60000000) (G:cZ g q u) (F:dO g i m) (ok:cn u.aq) (hl:m.locals<=3) (hn:u.methods.length<=100) :
  Dr prog 38 [.pointer (some ⟨a,0,none⟩),.agg ⟨q⟩,.agg ⟨i⟩] g a vb p 10 λg' v=>U9 v:=by
 obtain⟨X,W,K,aa,rfl,D,kS,ko,hl2⟩:=G.form;obtain⟨p1,Q,p2,S,p3,T,p4,V,rfl,k1,k2,k3,k4,k5,k6,k7,k8,d1,d2,d3,d4⟩:=F.form;have vL:=ok.2.1;have H7:=ok.1;refine bT aB func38 YP U rfl ?_;conv=>whnf
 refine bB r O (λc B C Y L=>?_);have hc:=C O;conv=>whnf
 refine bB L O (λx M s N e=>?_);have H:=s O;have Tz:1<=mx m.locals 1/\mx m.locals 1<=3:=by unfold mx;split<;>omega
 have f:∀ k:Nat,k<=100->1<=mx (k:Int) 1/\mx (k:Int) 1<=100:=λk d=>by unfold mx;split<;>omega
 have I:x=0\/x=1\/x=2\/x=3\/x=4\/x=5\/x=6\/x=7\/x=8\/x=9\/x=10\/x=11\/x=12\/x=13\/x=14\/x=15\/x=16\/x=17\/x=18\/x=19\/x=20\/x=21\/x=22\/x=23\/x=24\/x=25:=by omega
 clear M s N H;rcases I with rfl|rfl|rfl|rfl|rfl|rfl|rfl|rfl|rfl|rfl|rfl|rfl|rfl|rfl|rfl|rfl|rfl|rfl|rfl|rfl|rfl|rfl|rfl|rfl|rfl|rfl;all_goals
  conv=>whnf
  repeat' ((first
   | exact⟨_,_,rfl,Heap.le_refl g,r.free,O,O,_,_,_,rfl,⟨O,O⟩,O,O,⟨O,O⟩,O,O⟩
   | exact⟨_,_,rfl,E,j.free,O,O,_,_,_,rfl,⟨O,O⟩,O,O,⟨O,O⟩,by have:=f _ d;omega,by have:=f _ d;omega⟩
   | refine av ?_
   | refine bB e O (λy t w z o=>?_)
   | refine bB j O (λy t w z o=>?_)
   | refine G8 e O (λy K t w o z y3=>?_)
   | refine MQ e D ok ⟨B,O⟩ (λg3 p' P k E j d=>?_))<;>conv=>whnf)
 have J:y=0\/y=1\/y=2:=by omega
 rcases J with rfl|rfl|rfl;all_goals
  refine ay ?_;conv=>whnf
  exact⟨_,_,rfl,Heap.le_refl g,r.free,O,O,_,_,_,rfl,⟨O,O⟩,O,O,⟨O,O⟩,O,O⟩
theorem Jr {p:Prop} {v:Value} (a:v=tf p):(v=.bool true/\p)\/(v=.bool false/\¬p):=by
 by_cases h:p
 ·exact .inl ⟨a.trans (ei h),h⟩
 exact .inr ⟨a.trans (cS h),h⟩
theorem G9 (D ms:List Value) (u:aS) (m:cu) (x:dc) (s:dF) (lp B:Option Addr) (C z:Nat) (h:Heap) (K:cZ h D u) (hm:dO h ms m) (H:D8 u) (hI:oN h s lp B C z) (T:qW u.aq.length m.locals s) (Gk:0<=m.locals) (hl:m.locals<=3) (mX:cL u.aq.length m.out)
  (hk:0<=x.kind/\x.kind<=24) (ha : -1000<=x.a/\x.a<=1000) (hb : -1000<=x.b/\x.b<=1000) :
  bI prog 155 [.agg ⟨D⟩,.agg ⟨ms⟩,.agg #[.int .i64 x.kind,.int .i64 x.a,.int .i64 x.b],.agg #[.bool s.told,.slice lp s.locals.length C,.slice B s.stack.length z]] h λv h'=>h.le h'/\∃ r,qT h' v r/\∀ y,r=some y->qW u.aq.length m.locals y/\y.told=s.told/\ej u {m with code:=[x]} x:=by
 obtain⟨M,F,p2,c2,N,G,p4,c4,rfl,k1,k2,k3,k4,k5,k6,k7,k8,d1,d2,d3,d4⟩:=hm.form;have Q:=λq d (f:h.le d) (o:dO d q {m with code:=[x]})=>tH D q u {m with code:=[x]} x d (K.le f) o H.1 ⟨by unfold cH;omega,by unfold cH;omega⟩ Gk;have V:=λq d (f:h.le d) (o:dO d q {m with code:=[x]}) (j:ej u {m with code:=[x]} x)=>sC D q u {m with code:=[x]} 0 s lp B C z d (K.le f) o H (hI.le f) T hl Z j mX;have Y:=λ(j:ej u {m with code:=[x]} x)=>q7 (m:={m with code:=[x]}) H T j;obtain⟨cp,cc,ad,ab,rfl,hcs,kS,ko,hl2⟩:=K.form;generalize ej u {m with code:=[x]} x=E at Q V Y;obtain⟨k,g,b⟩:=x;simp only at hk ha hb;refine bT aB func155 Sj U rfl ?_;conv=>whnf
 refine dn [.int .i64 k,.int .i64 g,.int .i64 b] rfl (λt d vW e1 f g1=>?_);have o:dO d [.int .i64 m.cls,.int .i64 m.er,.slice M m.args.length F,.int .i64 m.out,.int .i64 m.locals,.slice (some ⟨t,0,none⟩) 1 1,.slice N m.aT.length G,.slice p4 m.catches.length c4] {m with code:=[⟨k,g,b⟩]}:=by
  refine⟨_,_,_,_,rfl,k1,k2,k3,k4,k5.le f,?_,k7.le f (λ_ _ j=>j.le f),k8.le f (λ_ _ j=>j)⟩;refine⟨Z,_,_,rfl,Z,.inr ⟨t,0,rfl,λaa y I=>?_⟩⟩;have h0:aa=0:=by
   have:=(List.getElem?_eq_some_iff.1 I).1;simp at this;exact this
  subst h0;simp at I;subst I;exact⟨_,bK g1 3 0 Z,rfl,by show cH k;unfold cH;omega,by show cH g;unfold cH;omega,by show cH b;unfold cH;omega⟩
 have S:=Q _ d f o;have MR:=V _ d f o;obtain⟨tv,W⟩:∃ tv,tv=tf E:=⟨_,rfl⟩
 rw[<-W]at S;conv=>whnf
 refine ax S ?_;rcases Jr W with ⟨rfl,w⟩|⟨rfl,w⟩
 ·have J:=MR w;have X:=Y w;have fin:∀ e,h.le e->h.le e/\∃ r,qT e (.tuple #[.agg #[.bool s.told,.slice lp s.locals.length C,.slice B s.stack.length z],.bool false]) r/\∀ y,r=some y->qW u.aq.length m.locals y/\y.told=s.told/\E:=λe L=>⟨L,none,⟨_,_,_,_,_,_,_,rfl⟩,λy p=>by cases p⟩
  have P:∀ v e,d.le e->qT e v (stepT u {m with code:=[⟨k,g,b⟩]} ⟨k,g,b⟩ s)->h.le e/\∃ r,qT e v r/\∀ y,r=some y->qW u.aq.length m.locals y/\y.told=s.told/\E:=λv e L hr=>⟨Heap.le_trans f L,_,hr,λy p=>⟨(X y p).1,(X y p).2,w⟩⟩
  change bI _ _ _ _ (λv h'=>d.le h'/\qT h' v (stepT u {m with code:=[⟨k,g,b⟩]} ⟨k,g,b⟩ s))at J
  conv=>whnf
  apply aD<;>intro g2;all_goals conv=>whnf
  ·apply aD<;>intro g3;all_goals conv=>whnf
   ·exact fin d f
   refine aG J (λv e i=>?_);refine i.2.form.elim λa1 a=>a.elim λM a=>a.elim λn1 a=>a.elim λF a=>a.elim λN a=>a.elim λn3 a=>a.elim λG a=>a.elim λt a=>?_;subst a;conv=>whnf
   exact P _ e i.1 i.2
  refine aG J (λv e i=>?_);refine i.2.form.elim λa1 a=>a.elim λM a=>a.elim λn1 a=>a.elim λF a=>a.elim λN a=>a.elim λn3 a=>a.elim λG a=>a.elim λt a=>?_;subst a;conv=>whnf
  exact P _ e i.1 i.2
 conv=>whnf
 exact⟨f,none,⟨_,_,_,_,_,_,_,rfl⟩,λy p=>by cases p⟩
def cJ (x:dc):List Value:=[.int .i64 x.kind,.int .i64 x.a,.int .i64 x.b]
theorem vh {i:Heap} {j:Nat} {vb:Value} {p:Int} (t:List Value) (m:cu) (r:bz i j vb p) (M:p<=60000000) (B:dO i t m) :
  Dr prog 85 [.pointer (some ⟨j,0,none⟩),.agg ⟨t⟩] i j vb p 3 λu v=>∃ b x y,v=.slice (some ⟨b,0,none⟩) 2 2/\i b=none/\u b=some (.cells (cJ x++cJ y).toArray 78 (0,0)) /\
   ((y=⟨23,0,0⟩/\x=⟨12,1,0⟩)\/(y=⟨22,0,0⟩/\(x=⟨2,0,0⟩\/∃ w,x=⟨1,w,0⟩/\-128<=w/\w<=127))):=by
 obtain⟨Y,I,p2,J,p3,K,p4,L,rfl,N,P,Q,S,T,V,W,X,d1,d2,d3,d4⟩:=B.form;refine bT aB func85 Zw U rfl ?_;conv=>whnf
 apply aD<;>intro z;all_goals conv=>whnf
 ·refine G8 r O (λw aa D E C q0 q1=>?_);conv=>whnf
  refine bB C O (λx F G H g=>?_);conv=>whnf
  apply aD<;>intro o;all_goals conv=>whnf
  ·refine jg (cJ ⟨12,1,0⟩++cJ ⟨23,0,0⟩) g rfl (λb q d s e f a=>?_);conv=>whnf
   exact⟨_,_,rfl,e,f.free,O,O,b,_,_,rfl,d,a,.inl ⟨rfl,rfl⟩⟩
  refine jg (cJ ⟨1,w,0⟩++cJ ⟨22,0,0⟩) g rfl (λb q d s e f a=>?_);conv=>whnf
  exact⟨_,_,rfl,e,f.free,O,O,b,_,_,rfl,d,a,.inr ⟨rfl,.inr ⟨w,rfl,D,E⟩⟩⟩
 refine bB r O (λx F G H g=>?_);conv=>whnf
 apply aD<;>intro o;all_goals conv=>whnf
 ·refine jg (cJ ⟨12,1,0⟩++cJ ⟨23,0,0⟩) g rfl (λb q d s e f a=>?_);conv=>whnf
  exact⟨_,_,rfl,e,f.free,O,O,b,_,_,rfl,d,a,.inl ⟨rfl,rfl⟩⟩
 refine jg (cJ ⟨2,0,0⟩++cJ ⟨22,0,0⟩) g rfl (λb q d s e f a=>?_);conv=>whnf
 exact⟨_,_,rfl,e,f.free,O,O,b,_,_,rfl,d,a,.inr ⟨rfl,.inl rfl⟩⟩
def eI (h:Heap) (L:List Nat):Heap:=λx=>if x∈L then none else h x
theorem j7 {h:Heap} {L:List Nat} {x:Nat} (a:x∈L):eI h L x=none:=by unfold eI;rw[if_pos a]
theorem fj {h:Heap} {L:List Nat} {x:Nat} (a:x ∉ L):eI h L x=h x:=by unfold eI;rw[if_neg a]
theorem z9 (h:Heap) (L:List Nat):(eI h L).le h:=λx o a=>by
 by_cases e:x∈L
 ·rw[j7 e]at a;cases a
 rw[fj e]at a;exact a
theorem dw {h h':Heap} (L:List Nat) (d:h.le h'):(eI h L).le (eI h' L):=λx o a=>by
 by_cases e:x∈L
 ·rw[j7 e]at a;cases a
 rw[fj e]at a ⊢;exact d x o a
theorem vj {h0 h:Heap} {L:List Nat} (f:h0.le h) (d:∀ b∈L,h0 b=none):h0.le (eI h L):=λx o a=>by
 by_cases e:x∈L
 ·rw[d x e]at a;cases a
 rw[fj e];exact f x o a
theorem Js {h h':Heap} {L:List Nat} (f:(eI h L).le (eI h' L)) (d:∀ b∈L,h' b=h b):h.le h':=λx o a=>by
 by_cases e:x∈L
 ·rw[d x e];exact a
 have:=f x o (by rw[fj e];exact a);rwa [fj e]at this
theorem Aa {h h':Heap} {L f:List Nat} (g:Ev h h' L f):(eI h L).le (eI h' f):=λx o a=>by
 by_cases e:x∈L
 ·rw[j7 e]at a;cases a
 rw[fj e]at a;have j:x ∉ f:=λi=>by
  rcases g.new x i with d|d
  ·exact e d
  rw[a]at d;cases d
 rw[fj j,g.qv x (by rw[a];simp) e];exact a
theorem Cf {P:Program} {f:FuncId} {args:List Value} {h:Heap} {L:List Nat} {R:Value->Heap->Prop} (t:∀ b∈L,∃ o,h b=some o) (E:bI P f args (eI h L) R) :
  bI P f args h λv h'=>(∀ b∈L,h' b=h b)/\R v (eI h' L):=by
 intro w q;refine(E w (λs B a=>q s B (z9 h L s B a))).mono ?_;rintro e K ⟨g,m,i⟩;have z:∀ b∈L,b < w.heap.size:=λb a=>by obtain⟨o,j⟩:=t b a;exact dX (q b o j)
 have D:∀ b∈L,g b=none:=λb u=>by
  cases a:g b with
  | none=>rfl
  | some x =>
   rcases m.tG b (by rw[a];simp)with d|d
   ·exact absurd (j7 u) d
   have:=z b u;omega
 let h':Heap:=λx=>if x∈L then h x else g x
 have y:∀ x,x∈L->h' x=h x:=λx a=>by simp[h',a]
 have p:∀ x,x ∉ L->h' x=g x:=λx a=>by simp[h',a]
 have F:eI h' L=g:=by
  funext x
  by_cases e:x∈L
  ·rw[j7 e,D x e]
  rw[fj e,p x e]
 have J:cK h w h' K:=by
  refine⟨λx C a=>?_,λx a H=>?_,λx a=>?_,m.size,m.fz,m.out⟩
  ·by_cases e:x∈L
   ·have G:=m.aJ x (z x e) (j7 e);rw[y x e]at a;rw[G];exact q x C a
   rw[p x e]at a;exact m.view x C a
  ·have I:eI h L x=none:=by
    by_cases e:x∈L
    ·exact j7 e
    rw[fj e];exact H
   exact m.aJ x a I
  by_cases e:x∈L
  ·left;obtain⟨o,j⟩:=t x e;rw[j];simp
  rw[p x e]at a;rcases m.tG x a with d|d
  ·left;rwa [fj e]at d
  exact .inr d
 refine⟨h',J,?_⟩;cases e with
 | returned v=>exact⟨y,by rw[F];exact i⟩
 | panicked c=>exact i.elim
 | outgrown=>exact i.elim
theorem He {P:Program} {f:FuncId} {args:List Value} {g:Heap} {L:List Nat} {d:Nat} {vb:Value} {p:Int} {R:Value->Heap->Prop} {K:Value->Heap->Prop} {E:List PanicEntry->Heap->Prop} (r:bz g d vb p) (i:∀ b∈L,∃ o,g b=some o) (j:bI P f args (eI g L) λv a=>(eI g L).le a/\R v a)
  (m:∀ v a,g.le a->bz a d vb p->R v (eI a L)->K v (cN a d vb p)):Go.Vc.Call P f args (cN g d vb p) K E :=
 Jo r (bI.mono (Cf i j) λv a e=>⟨Js e.2.1 e.1,e.2.2⟩) m
abbrev Ab (h:Heap) (v:Value) (l:List dc) (B:List Nat):Prop:=bW 3 h v (l.map cJ) B
def rA (u:aS) (m:cu) (x:dc):Prop:=(ej u {m with code:=[x]} x/\¬(8<=x.kind/\x.kind<=11)/\x.kind≠22/\x.kind≠23)\/((8<=x.kind/\x.kind<=10)/\(-3<=x.a/\x.a<=-1)/\x.b=0)
structure iX (g0 g:Heap) (u:aS) (m:cu) (code:List dc) (pc:Option Addr) (cc:Nat) (Bc:List Nat) (el:List Int) (pe:Option Addr) (ce:Nat) (Be:List Nat):Prop where
 le:g0.le g
 oc:Ab g (.slice pc code.length cc) code Bc
 oe:dI g (.slice pe el.length ce) el Be
 nd:Nd (Bc++Be)
 fr:∀ b∈Bc++Be,g0 b=none
 ins:∀ x∈code,rA u m x
 emp:∀ t∈el,0<=t/\t<=(code.length:Int)
 XB:el.length<=1000
theorem iX.in {g0 g:Heap} {u:aS} {m:cu} {i:List dc} {pc:Option Addr} {e:Nat} {a:List Nat} {j:List Int} {q:Option Addr} {f:Nat} {d:List Nat} (h:iX g0 g u m i pc e a j q f d):∀ b∈a++d,∃ o,g b=some o :=
 λb p=>(List.mem_append.1 p).elim (h.oc.in b) (h.oe.in b)
theorem iX.aJ {g0 o p:Heap} {u:aS} {m:cu} {i:List dc} {pc:Option Addr} {f:Nat} {d:List Nat} {j:List Int} {q:Option Addr} {g:Nat} {e:List Nat} (h:iX g0 o u m i pc f d j q g e) (a:o.le p):iX g0 p u m i pc f d j q g e :=
 ⟨Heap.le_trans h.le a,h.oc.aJ (cD.of_le a _),h.oe.aJ (cD.of_le a _),h.nd,h.fr,h.ins,h.emp,h.XB⟩
theorem sE {A B:List Nat} (h:Nd (A++B)):∀ b∈A,b ∉ B:=λb a d=>by
 have:=h b;have:=List.count_pos_iff.2 a;have:=List.count_pos_iff.2 d;simp only[List.count_append]at *;omega
theorem iX.app {g0 i:Heap} {u:aS} {m:cu} {e:List dc} {pc:Option Addr} {B:Nat} {j:List Nat} {D:List Int} {G:Option Addr} {C:Nat} {g:List Nat} {o:Nat} {vb:Value} {q0 q:Int} {n bytes:Nat} {zero:List Value} {ty:TypeId} {K:Value->Heap->Prop} (h:iX g0 i u m e pc B j D G C g) (r0:bz g0 o vb q0) (r:bz i o vb q) (x:dc) (T:rA u m x) (w:n=e.length) (hl:e.length<=1000) (W:zero.length=3) (a:bytes<=1000)
  (P:∀ v p f B',iX g0 f u m (e++[x]) v p B' D G C g->(eI i (j++g)).le (eI f (B'++g))->bz f o vb q->K (.slice v (e.length+1) p) (cN f o vb q)):App bytes 3 zero ty (cN i o vb q) pc n B 1 (cJ x) K:=by
 subst w;have N:=h.in;have s:((e.map cJ).length + [cJ x].length)*bytes<=1001*1000:=Nat.mul_le_mul (by simp;omega) a;refine Go.Proofs.kK r0 r (ys:=[cJ x]) h.oc (λb a=>h.fr b (by simp[a])) h.le Z rfl (by simp[cJ]) rfl W O (by simp;omega) ?_;intro v' f B' Y k2 k3 k4 F z;have t:Ab f v' (e++[x]) B':=by unfold Ab;rw[List.map_append];exact k3
 obtain⟨v,p,rfl,_⟩:=bW.form t;have Q:((e++[x]).map cJ).length=e.length+1:=by simp
 rw[Q]at t ⊢;have I:Ev i f j B':=⟨λb a y=>F b y a,z⟩
 have J:Ev i f (j++g) (B'++g):=⟨λb a y=>F b (λs=>y (by simp[s])) a,λb a=>by
  rcases List.mem_append.1 a with d|d
  ·exact(z b d).imp (λL=>by simp[L]) id
  exact .inl (by simp[d])⟩
 refine P v p f B' ⟨Y,by simpa using t,h.oe.aJ (I.aJ λb a M=>sE h.nd b M a),?_,λb a=>?_,λab V=>?_,λaa S=>?_,h.XB⟩ (Aa J) k2
 ·have:=Nd.swap (A:=g) (X:=j) (X':=B') (h.nd.perm λH=>by simp only[List.count_append];omega) t.nd (λb a=>(z b a).imp id λw s=>by
   obtain⟨ad,E⟩:=N b (by simp[s]);rw[w]at E;cases E)
  exact this.perm λH=>by simp only[List.count_append];omega
 ·rcases List.mem_append.1 a with d|d
  ·exact k4 b d
  exact h.fr b (by simp[d])
 ·rcases List.mem_append.1 V with d|d
  ·exact h.ins ab d
  rw[List.mem_singleton.1 d];exact T
 have:=h.emp aa S;simp;omega
theorem iX.Va {g0 j:Heap} {u:aS} {m:cu} {v:List dc} {pc:Option Addr} {B:Nat} {a:List Nat} {d:List Int} {E:Option Addr} {C:Nat} {s:List Nat} {i:Nat} {vb:Value} {S q:Int} {n:Nat} {ty:TypeId} {K:Value->Heap->Prop} (h:iX g0 j u m v pc B a d E C s) (T:bz g0 i vb S) (r:bz j i vb q) (t:Int) (L:0<=t/\t<=(v.length:Int)) (y:n=d.length) (W:d.length<=999)
  (I:∀ p o e B',iX g0 e u m v pc B a (d++[t]) p o B'->(eI j (a++s)).le (eI e (a++B'))->bz e i vb q->K (.slice p (d.length+1) o) (cN e i vb q)):App 8 1 [.int .i64 0] ty (cN j i vb q) E n C 1 [.int .i64 t] K:=by
 subst y;have H:=h.in;refine q9 (k:=[t]) (g0:=g0) T r h.oe (λb g=>h.fr b (by simp[g])) h.le rfl (by simp;omega) (λp o e B' N P z Q w=>?_);have x:(d++[t]).length=d.length+1:=by simp
 rw[x]at z ⊢;have F:Ev j e (a++s) (a++B'):=w.more a;refine I p o e B' ⟨N,h.oc.aJ (w.aJ λb g G=>sE h.nd b g G),by rw[x];exact z,?_,λb g=>?_,h.ins,λV M=>?_,by rw[x];omega⟩ (Aa F) P
 ·exact Nd.swap h.nd z.nd (λb g=>(w.new b g).imp id λy J=>by
   obtain⟨X,D⟩:=H b (by simp[J]);rw[y]at D;cases D)
 ·rcases List.mem_append.1 g with f|f
  ·exact h.fr b (by simp[f])
  exact Q b f
 rcases List.mem_append.1 M with f|f
 ·exact h.emp V f
 rw[List.mem_singleton.1 f];exact L
theorem MS {a b:Int} {K:Int->Prop} (f:0<=a) (g:a < 3) (i:0<=b) (j:b < 2) (d:∀ c,0<=c->c<=2->K c):Ar .i64 (a*b) K:=by
 have e:b=0\/b=1:=by omega
 rcases e with rfl|rfl
 ·exact E0 O O (d _ O O)
 exact E0 O O (d _ O O)
theorem Ee {C:Heap} {B:Nat} {vb:Value} {p:Int} (us ms:List Value) (u:aS) (m:cu) (Y:Int) (r:bz C B vb p) (hp:p<=50000000) (hu:cZ C us u) (hm:dO C ms m) (hV:D8 u) (hn:u.methods.length<=100) (hH:eW u.aq.length m) (De:0<=Y/\Y<=20) :
  Dr prog 123 [.pointer (some ⟨B,0,none⟩),.agg ⟨us⟩,.agg ⟨ms⟩,.int .i64 Y] C B vb p 2000 λg' v=>∃ e pc cc i f t ce w,v=.tuple #[.slice pc e.length cc,.slice t f.length ce]/\iX C g' u m e pc cc i f t ce w/\(e.length:Int)<=Y:=by
 have ok:=hV.1;have vL:=ok.2.1;have we:=hH.2.2.2.2.1;have Gk:0<=m.locals:=by have:=hH.2.2.2.2.2;omega
 have mX:=hH.2.2.1;have vg:=λhh (hl:C.le hh)=>pT us ms m u.aq.length hh (hm.le hl) hH vL;have P0:=λg' q (hl:C.le g') (r':bz g' B vb q) hq=>z8 us ms u m r' hq (hu.le hl) (hm.le hl) ok we hn;have P1:=λag s ab b c ae hh (hl:C.le hh) x g hk ha W=>G9 us ms u m ag s ab b c ae hh (hu.le hl) (hm.le hl) hV x g Gk we mX hk ha W;obtain⟨cp,cc,q,ae,rfl,hcs,kS,ko,hl2⟩:=hu.form;obtain⟨p1,c1,p2,c2,p3,c3,p4,c4,rfl,k1,k2,k3,k4,k5,k6,k7,k8,d1,d2,d3,d4⟩:=hm.form;refine bT aB func123 RU U rfl ?_;conv=>whnf
 refine jg [] r rfl (λbc g1 QY NL l1 r1 e1=>?_);conv=>whnf
 refine jg [] r1 rfl (λbe g2 OF nbe l2 r2 e2=>?_);conv=>whnf
 have OI:=Heap.le_trans l1 l2;have pV:bc≠be:=by rintro rfl;rw[OF]at e1;cases e1
 have CQ:iX C g2 u m [] (some ⟨bc,0,none⟩) 0 [bc] [] (some ⟨be,0,none⟩) 0 [be]:=by
  refine⟨OI,dL (l2 bc _ e1),dL e2,λab=>?_,λb W=>?_,Z,Z,Z⟩
  ·simp only[List.count_append,List.count_cons,List.count_nil];by_cases h1:bc=ab
   ·have:¬be=ab:=by omega
    simp[h1,this]
   simp[h1];split<;>omega
  simp at W;rcases W with rfl|rfl
  ·exact QY
  exact bq l1 OF
 refine He r2 CQ.in (vg _ (vj OI CQ.fr)) (λv g3 l3 r3 a=>?_);refine a.elim λq1 a=>a.elim λx1 a=>a.elim λq2 a=>a.elim λx2 a=>?_;have z:=a.1;subst z;have KN:=a.2;have yE:=CQ.aJ l3;conv=>whnf
 refine eu [0,3,5,6,10,11,12,13] [5,6,12] (λy:(Heap × Int × Nat) × (List dc × Option Addr × Nat × List Nat) × (List Int × Option Addr × Nat × List Nat) × (dF × Option Addr × Nat × Option Addr × Nat)=>y.1.2.2<=40/\bz y.1.1 B vb y.1.2.1/\p<=y.1.2.1/\y.1.2.1<=p+2+30*(y.1.2.2:Int)/\iX C y.1.1 u m y.2.1.1 y.2.1.2.1 y.2.1.2.2.1 y.2.1.2.2.2 y.2.2.1.1 y.2.2.1.2.1 y.2.2.1.2.2.1 y.2.2.1.2.2.2/\oN (eI y.1.1 (y.2.1.2.2.2++y.2.2.1.2.2.2)) y.2.2.2.1 y.2.2.2.2.1 y.2.2.2.2.2.2.1 y.2.2.2.2.2.1 y.2.2.2.2.2.2.2/\qW u.aq.length m.locals y.2.2.2.1/\(y.2.1.1.length:Int)+y.2.2.2.1.stack.length<=Y/\y.2.2.1.1.length<=y.1.2.2) (λy=>40-y.1.2.2)
  (λy=>([.v (.pointer (some ⟨B,0,none⟩)),.v (.int .i64 Y),.l 5 0,.l 6 0,.v (.slice y.2.1.2.1 y.2.1.1.length y.2.1.2.2.1),.v (.slice y.2.2.1.2.1 y.2.2.1.1.length y.2.2.1.2.2.1),.l 12 0,.v (.int .i64 y.1.2.2)],
   [some [.slice cp u.aq.length cc,.slice q u.methods.length ae],some [.int .i64 m.cls,.int .i64 m.er,.slice p1 m.args.length c1,.int .i64 m.out,.int .i64 m.locals,.slice p2 m.code.length c2,.slice p3 m.aT.length c3,.slice p4 m.catches.length c4],some [.bool y.2.2.2.1.told,.slice y.2.2.2.2.1 y.2.2.2.1.locals.length y.2.2.2.2.2.1,.slice y.2.2.2.2.2.2.1 y.2.2.2.1.stack.length y.2.2.2.2.2.2.2]],cN y.1.1 B vb y.1.2.1))
  ((g3,p,0),([],some ⟨bc,0,none⟩,0,[bc]),([],some ⟨be,0,none⟩,0,[be]),(gL m,q1,x1,q2,x2)) ⟨by simp only;omega,r3,by simp only;omega,by simp only;omega,yE,KN,qX hH vL,by simp[gL];omega,Z⟩ rfl ?_
 rintro⟨⟨g4,q4,L⟩,⟨e,pc,X,i⟩,⟨f,t,D,w⟩,⟨s,T,V,y3,y4⟩⟩ ⟨hi,r4,IL,oL,hB,x,g,hlen,Gj⟩;simp only at hi r4 IL oL hB x g hlen Gj ⊢;conv=>whnf
 apply aD<;>intro g5;all_goals conv=>whnf
 ·have W3:=g.len;refine av ?_;conv=>whnf
  apply aD<;>intro g6;all_goals conv=>whnf
  ·apply aD<;>intro g7;all_goals conv=>whnf
   ·refine hB.Va r r4 e.length ⟨O,O⟩ rfl O (λQ1 Q2 g8 NM j l8 G=>?_);conv=>whnf
    repeat' ((first|refine bZ ?_|refine bD ?_|refine cU ?_|refine cy ?_)<;>conv=>whnf)
    refine fq (by assumption) (P0 g8 _ j.le (by assumption) O) (λv g9 Q o r9 h1 h2 d=>?_);refine d.elim λkk d=>d.elim λaa d=>d.elim λbx d=>?_;have z:=d.1;subst z;have d:=d.2;have K:=j.aJ o;have hc:=P1 ⟨kk,aa,bx⟩ s T y3 V y4 (eI g9 (i++NM)) (vj K.le K.fr) ((x.le l8).le (dw _ o)) g d.1 d.2.2.2.1 d.2.2.2.2;conv=>whnf
    refine He r9 K.in hc (λv I N S a=>?_);have J:=K.aJ N;refine a.elim λres a=>?_;cases res with
    | none =>
     have a:=a.1;refine a.elim λE a=>a.elim λF a=>a.elim λw3 a=>a.elim λw4 a=>a.elim λw5 a=>a.elim λw6 a=>a.elim λw7 z=>?_;subst z;conv=>whnf
     refine av ?_;conv=>whnf
     exact cT ((I,Q,L+1),(e,pc,X,i),(f++[(e.length:Int)],Q1,Q2,NM),(s,T,V,y3,y4)) ⟨by simp only;omega,S,by simp only;omega,by simp only;omega,J,((x.le l8).le (dw _ o)).le (dw _ N),g,hlen,by (simp;omega)⟩ (by simp only;omega) (by simp only[List.length_append];rfl)
    | some y =>
     have hy:=a.2 y rfl;have a:=a.1;refine a.elim λE a=>a.elim λF a=>a.elim λw3 a=>a.elim λw4 a=>?_;have z:=a.1;subst z;have MT:oN (eI I (i++NM)) y E w3 F w4:=a.2;have hy4:=hy.1.len;have same:∀(af:List Slot × List (Option (List Value)) × Heap),True:=λ_=>trivial;conv=>whnf
     refine av ?_;conv=>whnf
     refine av ?_;conv=>whnf
     apply aD<;>intro gm;all_goals conv=>whnf
     ·apply aU<;>intro gk;all_goals conv=>whnf
      ·refine J.app r S ⟨kk,aa,bx⟩ (.inl ⟨hy.2.2,d.2.1,d.2.2.1,gk⟩) rfl O rfl (Nat.le_of_ble_eq_true rfl) (λP M MU H Cg P2 MV=>?_);conv=>whnf
       refine av ?_;conv=>whnf
       exact cT ((MU,Q,L+1),(e++[⟨kk,aa,bx⟩],P,M,H),(f++[(e.length:Int)],Q1,Q2,NM),(y,E,F,w3,w4)) ⟨by simp only;omega,MV,by simp only;omega,by simp only;omega,Cg,MT.le P2,hy.1,by simp only[List.length_append,List.length_singleton];omega,by (simp;omega)⟩ (by simp only;omega) (by simp only[List.length_append];rfl)
      refine av ?_;conv=>whnf
      exact cT ((I,Q,L+1),(e,pc,X,i),(f++[(e.length:Int)],Q1,Q2,NM),(s,T,V,y3,y4)) ⟨by simp only;omega,S,by simp only;omega,by simp only;omega,J,((x.le l8).le (dw _ o)).le (dw _ N),g,hlen,by (simp;omega)⟩ (by simp only;omega) (by simp only[List.length_append];rfl)
     refine av ?_;conv=>whnf
     exact cT ((I,Q,L+1),(e,pc,X,i),(f++[(e.length:Int)],Q1,Q2,NM),(s,T,V,y3,y4)) ⟨by simp only;omega,S,by simp only;omega,by simp only;omega,J,((x.le l8).le (dw _ o)).le (dw _ N),g,hlen,by (simp;omega)⟩ (by simp only;omega) (by simp only[List.length_append];rfl)
   have XC:=x.le (z9 _ _);have HU:s.stack.length-1 < s.stack.length:=by omega
   obtain⟨b1,o1,E,_⟩:=XC.2.at HU;have cA:∀(ad:Nat) (qq:Int) (hj:ad < s.stack.length),rd (cN g4 B vb qq) b1 (o1+ad*1)=some (.int .i64 s.stack[ad]):=λad qq hj=>by
    obtain⟨b2,o2,F,a2⟩:=XC.2.at hj;rw[E]at F;simp only[Option.some.injEq,Addr.mk.injEq]at F;obtain⟨rfl,rfl,_⟩:=F;exact aW (aX r4.free) a2
   repeat' ((first|refine bZ ?_|refine bD ?_|refine cU ?_|refine cy ?_|apply aD<;>intro _|refine bB (by assumption) O (λai z0 z1 z2 r5=>?_)|refine av ?_|refine ay ?_|refine aP E ?_|refine ld (cA _ _ O) ?_|refine MO (by assumption) (qu _ _) ?_|refine MS O O O O (λah w0 E=>?_)|refine hB.app r (by assumption) ⟨_,_,0⟩ (.inr ⟨⟨by simp only;omega,by simp only;omega⟩,⟨by simp only;omega,by simp only;omega⟩,rfl⟩) rfl O rfl (Nat.le_of_ble_eq_true rfl) (λP M g8 H j l8 G=>?_)|refine jg [] G rfl (λbn g9 hbn nbn o r9 e9=>?_))<;>conv=>whnf)
   all_goals first
    | (refine cT ((g9,_,L+1),(_,P,M,H),(f,t,D,w),(⟨s.told,s.locals,[]⟩,T,V,some ⟨bn,0,none⟩,0)) ⟨by simp only;omega,r9,by simp only;omega,by simp only;omega,j.aJ o,⟨(x.1.le l8).le (dw _ o),fO _ _ _⟩,⟨g.loc,g.nK,λaf ht=>(by cases ht),Z⟩,by simp;omega,by simp only;omega⟩ (by simp only;omega) (by simp only[List.length_append];rfl);done)
    | skip
   all_goals
    refine fq (by assumption) (P0 g4 _ hB.le (by assumption) O) (λv g9 Q o r9 h1 h2 d=>?_);refine d.elim λkk d=>d.elim λaa d=>d.elim λbx d=>?_;have z:=d.1;subst z;have d:=d.2;have K:=hB.aJ o;have hc:=P1 ⟨kk,aa,bx⟩ s T y3 V y4 (eI g9 (i++w)) (vj K.le K.fr) (x.le (dw _ o)) g d.1 d.2.2.2.1 d.2.2.2.2;conv=>whnf
    refine He r9 K.in hc (λv I N S a=>?_);have J:=K.aJ N;refine a.elim λres a=>?_;cases res with
    | none =>
     have a:=a.1;refine a.elim λE a=>a.elim λF a=>a.elim λw3 a=>a.elim λw4 a=>a.elim λw5 a=>a.elim λw6 a=>a.elim λw7 z=>?_;subst z;conv=>whnf
     refine av ?_;conv=>whnf
     exact cT ((I,Q,L+1),(e,pc,X,i),(f,t,D,w),(s,T,V,y3,y4)) ⟨by simp only;omega,S,by simp only;omega,by simp only;omega,J,(x.le (dw _ o)).le (dw _ N),g,hlen,by (simp only;omega)⟩ (by simp only;omega) rfl
    | some y =>
     have hy:=a.2 y rfl;have a:=a.1;refine a.elim λE a=>a.elim λF a=>a.elim λw3 a=>a.elim λw4 a=>?_;have z:=a.1;subst z;have MT:oN (eI I (i++w)) y E w3 F w4:=a.2;have hy4:=hy.1.len;have same:∀(af:List Slot × List (Option (List Value)) × Heap),True:=λ_=>trivial;conv=>whnf
     refine av ?_;conv=>whnf
     refine av ?_;conv=>whnf
     apply aD<;>intro gm;all_goals conv=>whnf
     ·apply aU<;>intro gk;all_goals conv=>whnf
      ·refine J.app r S ⟨kk,aa,bx⟩ (.inl ⟨hy.2.2,d.2.1,d.2.2.1,gk⟩) rfl O rfl (Nat.le_of_ble_eq_true rfl) (λP M MU H Cg P2 MV=>?_);conv=>whnf
       refine av ?_;conv=>whnf
       exact cT ((MU,Q,L+1),(e++[⟨kk,aa,bx⟩],P,M,H),(f,t,D,w),(y,E,F,w3,w4)) ⟨by simp only;omega,MV,by simp only;omega,by simp only;omega,Cg,MT.le P2,hy.1,by simp only[List.length_append,List.length_singleton];omega,by (simp only;omega)⟩ (by simp only;omega) (by simp only[List.length_append];rfl)
      refine av ?_;conv=>whnf
      exact cT ((I,Q,L+1),(e,pc,X,i),(f,t,D,w),(s,T,V,y3,y4)) ⟨by simp only;omega,S,by simp only;omega,by simp only;omega,J,(x.le (dw _ o)).le (dw _ N),g,hlen,by (simp only;omega)⟩ (by simp only;omega) rfl
     refine av ?_;conv=>whnf
     exact cT ((I,Q,L+1),(e,pc,X,i),(f,t,D,w),(s,T,V,y3,y4)) ⟨by simp only;omega,S,by simp only;omega,by simp only;omega,J,(x.le (dw _ o)).le (dw _ N),g,hlen,by (simp only;omega)⟩ (by simp only;omega) rfl
  have hs9:=g.len;refine eu [10,11,18] [] (λy:Heap × Int × (List dc × Option Addr × Nat × List Nat)=>0<=y.2.1/\y.2.1<=4/\bz y.1 B vb q4/\iX C y.1 u m y.2.2.1 y.2.2.2.1 y.2.2.2.2.1 y.2.2.2.2.2 f t D w/\(y.2.2.1.length:Int)+y.2.1<=Y) (λy=>y.2.1.toNat)
   (λy=>([.v (.slice y.2.2.2.1 y.2.2.1.length y.2.2.2.2.1),.v (.slice t f.length D),.v (.int .i64 y.2.1)],[],cN y.1 B vb q4))
   (g4,s.stack.length,(e,pc,X,i)) ⟨by simp only;omega,by simp only;omega,r4,hB,by simp only;omega⟩ rfl ?_
  rintro⟨g8,L4,⟨Ac,Vb,Vd,Ve⟩⟩ ⟨ha,W,G,j,Vf⟩;simp only at ha W G j Vf ⊢;conv=>whnf
  apply aD<;>intro ge;all_goals conv=>whnf
  ·refine j.app r G ⟨5,0,0⟩ (.inl ⟨(aL (p:=0) (q:=0) rfl).2 ⟨rfl,rfl⟩,Z,Z,Z⟩) rfl O rfl (Nat.le_of_ble_eq_true rfl) (λP M MU H Cg P2 MV=>?_);conv=>whnf
   refine av ?_;conv=>whnf
   exact cT (MU,L4-1,(Ac++[⟨5,0,0⟩],P,M,H)) ⟨by simp only;omega,by simp only;omega,MV,Cg,by simp only[List.length_append,List.length_singleton];omega⟩ (by simp only;omega) (by simp only[List.length_append];rfl)
  exact⟨_,_,rfl,j.le,G.free,O,O,Ac,Vb,Vd,Ve,f,t,D,w,rfl,j,O⟩
 have hs9:=g.len;refine eu [10,11,18] [] (λy:Heap × Int × (List dc × Option Addr × Nat × List Nat)=>0<=y.2.1/\y.2.1<=4/\bz y.1 B vb q4/\iX C y.1 u m y.2.2.1 y.2.2.2.1 y.2.2.2.2.1 y.2.2.2.2.2 f t D w/\(y.2.2.1.length:Int)+y.2.1<=Y) (λy=>y.2.1.toNat)
  (λy=>([.v (.slice y.2.2.2.1 y.2.2.1.length y.2.2.2.2.1),.v (.slice t f.length D),.v (.int .i64 y.2.1)],[],cN y.1 B vb q4))
  (g4,s.stack.length,(e,pc,X,i)) ⟨by simp only;omega,by simp only;omega,r4,hB,by simp only;omega⟩ rfl ?_
 rintro⟨g8,L4,⟨Ac,Vb,Vd,Ve⟩⟩ ⟨ha,W,G,j,Vf⟩;simp only at ha W G j Vf ⊢;conv=>whnf
 apply aD<;>intro ge;all_goals conv=>whnf
 ·refine j.app r G ⟨5,0,0⟩ (.inl ⟨(aL (p:=0) (q:=0) rfl).2 ⟨rfl,rfl⟩,Z,Z,Z⟩) rfl O rfl (Nat.le_of_ble_eq_true rfl) (λP M MU H Cg P2 MV=>?_);conv=>whnf
  refine av ?_;conv=>whnf
  exact cT (MU,L4-1,(Ac++[⟨5,0,0⟩],P,M,H)) ⟨by simp only;omega,by simp only;omega,MV,Cg,by simp only[List.length_append,List.length_singleton];omega⟩ (by simp only;omega) (by simp only[List.length_append];rfl)
 exact⟨_,_,rfl,j.le,G.free,O,O,Ac,Vb,Vd,Ve,f,t,D,w,rfl,j,O⟩
def tD (g e:Heap):Prop:=∀ b a x,rd g b a=some (.int .i64 x)->cH x->∃ d,rd e b a=some (.int .i64 d)/\cH d
structure s7 (g g':Heap):Prop where
 int:tD g g'
 bool:∀ b off x,rd g b off=some (.bool x)->∃ x',rd g' b off=some (.bool x')
 row:∀ b off v l,rd g b off=some v->cR g v l->∃ v' l',rd g' b off=some v'/\cR g' v' l'
theorem gT {α:Type} {Q:Nat->α->Prop}:∀ n:Nat,(∀ i,i < n->∃ a,Q i a)->∃ l:List α,l.length=n/\∀ i x,l[i]? = some x->Q i x
 | 0,_=>⟨[],rfl,Z⟩
 | n+1,hq=>by
  obtain⟨l,e,j⟩:=gT n (λi d=>hq i O);obtain⟨a,g⟩:=hq n O;refine⟨l++[a],by simp[e],λi x d=>?_⟩;by_cases m:i < n
  ·rw[List.getElem?_append_left O]at d;exact j i x d
  rw[List.getElem?_append_right O]at d;have f:i=n:=by
   have:=(List.getElem?_eq_some_iff.1 d).1;simp at this;omega
  subst f;rw[e,Nat.sub_self]at d;simp at d;subst d;exact g
def Ad {α:Type} (g a:Heap) (sz:Nat) (R:Heap->List Value->α->Prop):Prop:=∀ b d e x,dQ g b d sz=some e->R g e x->∃ f i,dQ a b d sz=some f/\R a f i
theorem fZ {α:Type} {g a:Heap} {sz:Nat} {R:Heap->List Value->α->Prop} (t:Ad g a sz R) {v:Value} {l:List α} (x:Row sz R g v l):∃ d,Row sz R a v d/\d.length=l.length:=by
 obtain⟨E,z,c,rfl,F,s⟩:=x;rcases s with rfl|⟨b,j,rfl,y⟩
 ·exact⟨[],⟨Z,z,c,rfl,Z,.inl rfl⟩,rfl⟩
 obtain⟨d,f,w⟩:=gT (Q:=λi C=>∃ e,dQ a b (j+i*sz) sz=some e/\R a e C) l.length (λi u=>by
  obtain⟨e,m,o⟩:=y i l[i] (by simp[u]);obtain⟨B,D,p,q⟩:=t _ _ _ _ m o;exact⟨D,B,p,q⟩)
 exact⟨d,⟨O,_,c,by rw[f],O,.inr ⟨b,j,rfl,w⟩⟩,f⟩
theorem jy {h:Heap} {b off:Nat} {v:Value} (a:rd h b off=some v):dQ h b off 1=some [v]:=by simp[dQ,a]
theorem dB {h:Heap} {b off n:Nat} {v:Value} {vs:List Value} (d:rd h b off=some v) (a:dQ h b (off+1) n=some vs):dQ h b off (n+1)=some (v::vs):=by simp only[dQ,d,a]
theorem cV {h:Heap} {b off n:Nat} {v:Value} {vs:List Value} (a:dQ h b off (n+1)=some (v::vs)):rd h b off=some v/\dQ h b (off+1) n=some vs:=by
 simp only[dQ]at a;split at a
 ·rename_i f r d e;simp only[Option.some.injEq,List.cons.injEq]at a;obtain⟨rfl,rfl⟩:=a;exact⟨d,e⟩
 cases a
theorem Jt {g d:Heap} (a:tD g d):Ad g d 1 Oq:=by
 rintro b p q x j ⟨rfl,m⟩;obtain⟨i,_⟩:=cV j;obtain⟨o,e,f⟩:=a _ _ _ i m;exact⟨_,o,jy e,rfl,f⟩
theorem eP {g d:Heap} (a:tD g d) {v:Value} {l:List Int} (f:cR g v l):∃ e,cR d v e/\e.length=l.length:=fZ (Jt a) f
theorem tO {g e:Heap} (a:tD g e):Ad g e 3 xJ:=by
 rintro b x y z d ⟨rfl,i1,i2,i3⟩;obtain⟨m,d⟩:=cV d;obtain⟨o,d⟩:=cV d;obtain⟨p,_⟩:=cV d;obtain⟨u,f,q⟩:=a _ _ _ m i1;obtain⟨v,i,s⟩:=a _ _ _ o i2;obtain⟨w,j,t⟩:=a _ _ _ p i3;exact⟨_,⟨u,v,w⟩,dB f (dB i (jy j)),rfl,q,s,t⟩
theorem tP {g e:Heap} (a:tD g e):Ad g e 4 y9:=by
 rintro b D E F d ⟨rfl,i1,i2,i3,t⟩;obtain⟨o,d⟩:=cV d;obtain⟨p,d⟩:=cV d;obtain⟨q,d⟩:=cV d;obtain⟨s,_⟩:=cV d;obtain⟨y,f,u⟩:=a _ _ _ o i1;obtain⟨z,i,v⟩:=a _ _ _ p i2;obtain⟨B,j,w⟩:=a _ _ _ q i3;obtain⟨C,m,x⟩:=a _ _ _ s t;exact⟨_,⟨y,z,B,C⟩,dB f (dB i (dB j (jy m))),rfl,u,v,w,x⟩
theorem Ju {g e:Heap} (a:s7 g e):Ad g e 3 jJ:=by
 rintro b y C D d ⟨w,x,rfl,i1,i2⟩;obtain⟨m,d⟩:=cV d;obtain⟨o,d⟩:=cV d;obtain⟨p,_⟩:=cV d;obtain⟨v,f⟩:=a.bool _ _ _ m;obtain⟨z,t,i,q⟩:=a.row _ _ _ _ o i1;obtain⟨B,u,j,s⟩:=a.row _ _ _ _ p i2;exact⟨_,⟨v,t,u⟩,dB f (dB i (jy j)),_,_,rfl,q,s⟩
theorem Jv {g e:Heap} (a:s7 g e) {vs:List Value} {m:cu} (z:dO g vs m):∃ d,dO e vs d/\d.code.length=m.code.length/\d.aT.length=m.aT.length:=by
 obtain⟨f,c,H,k,rfl,q,s,t,u,v,w,x,y⟩:=z;obtain⟨B,i,_⟩:=eP a.int v;obtain⟨C,j,F⟩:=fZ (tO a.int) w;obtain⟨D,o,G⟩:=fZ (Ju a) x;obtain⟨E,p,_⟩:=fZ (tP a.int) y;exact⟨⟨m.cls,m.er,B,m.out,m.locals,C,D,E⟩,⟨f,c,H,k,rfl,q,s,t,u,i,j,o,p⟩,F,G⟩
theorem s7.of_le {g d:Heap} (a:g.le d):s7 g d where
 int:=λ_ _ x h i=>⟨x,aW a h,i⟩
 bool:=λ_ _ x h=>⟨x,aW a h⟩
 row:=λ_ _ v l h i=>⟨v,l,aW a h,i.le a⟩
theorem s7.trans {g f j:Heap} (a:s7 g f) (c:s7 f j):s7 g j where
 int:=λb d x h i=>by
  obtain⟨y,e,i1⟩:=a.int b d x h i;exact c.int b d y e i1
 bool:=λb d x h=>by
  obtain⟨y,e⟩:=a.bool b d x h;exact c.bool b d y e
 row:=λb d v l h i=>by
  obtain⟨o,m,e,i1⟩:=a.row b d v l h i;exact c.row b d o m e i1
theorem s9 {g:Heap} {b off:Nat} {cs:List Value} {t:TypeId} {x y:Int} (p:g b=some (.cells cs.toArray t (0,0))) (q:cs[off]? = some (.int .i64 x)) (w:cH y):s7 g (g.set b (.cells (cs.set off (.int .i64 y)).toArray t (0,0))):=by
 have u:off < cs.length:=(List.getElem?_eq_some_iff.1 q).1;have other:∀ a d,¬(a=b/\d=off)->rd (g.set b (.cells (cs.set off (.int .i64 y)).toArray t (0,0))) a d=rd g a d:=by
  intro a d v;by_cases e:a=b
  ·subst e;have:d≠off:=λe=>v ⟨rfl,e⟩;rw[jI];simp only[rd,p,List.getElem?_toArray];rw[List.getElem?_set_ne (λe=>this e.symm)]
  exact kq e
 have same:rd (g.set b (.cells (cs.set off (.int .i64 y)).toArray t (0,0))) b off=some (.int .i64 y):=by
  rw[jI];simp[u]
 have s:rd g b off=some (.int .i64 x):=by simp[rd,p,q]
 have m:tD g (g.set b (.cells (cs.set off (.int .i64 y)).toArray t (0,0))):=λa d z f i=>by
  by_cases e:a=b/\d=off
  ·obtain⟨rfl,rfl⟩:=e;exact⟨y,same,w⟩
  exact⟨z,by rw[other _ _ e];exact f,i⟩
 refine⟨m,λa d z f=>?_,λa d D l j i=>?_⟩
 ·have e:¬(a=b/\d=off):=by
   rintro⟨rfl,rfl⟩;rw[s]at f;cases f
  exact⟨z,by rw[other _ _ e];exact f⟩
 have e:¬(a=b/\d=off):=by
  rintro⟨rfl,rfl⟩;rw[s]at j;obtain⟨_,E,c,o,_⟩:=i;rw[<-Option.some.inj j]at o;cases o
 obtain⟨C,B,_⟩:=eP m i;exact⟨D,C,by rw[other _ _ e];exact j,B⟩
theorem Ae {g:Heap} {b:Nat} {pre post:List Value} {t:TypeId} {G o:Bool} {p q:Option Addr} {n c k D:Nat} {j m:Value} {K L:List Int} (F:g b=some (.cells (pre++[Value.bool G,.slice p n c,.slice q k D]++post).toArray t (0,0)))
  (H:cR g j K) (z:cR g m L):s7 g (g.set b (.cells (pre++[Value.bool o,j,m]++post).toArray t (0,0))):=by
 have u:∀ i v,[Value.bool G,.slice p n c,.slice q k D][i]? = some v->rd g b (pre.length+i)=some v:=λi v s=>bA F rfl s;have J:(g.set b (.cells (pre++[Value.bool o,j,m]++post).toArray t (0,0))) b=some (.cells (pre++[Value.bool o,j,m]++post).toArray t (0,0)):=cB _ _ _;have same:∀ i v,[Value.bool o,j,m][i]? = some v->rd (g.set b (.cells (pre++[Value.bool o,j,m]++post).toArray t (0,0))) b (pre.length+i)=some v:=λi v s=>bA J rfl s;have other:∀ f a,¬(f=b/\pre.length<=a/\a < pre.length+3)->rd (g.set b (.cells (pre++[Value.bool o,j,m]++post).toArray t (0,0))) f a=rd g f a:=by
  intro f a I;by_cases e:f=b
  ·subst e;rw[jI];simp only[rd,F,List.getElem?_toArray];by_cases E:a < pre.length
   ·rw[List.append_assoc,List.append_assoc,List.getElem?_append_left E,List.getElem?_append_left E]
   have M:pre.length+3<=a:=by
    rcases Nat.lt_or_ge a (pre.length+3)with h|h
    ·exact absurd ⟨rfl,O,h⟩ I
    exact h
   rw[List.getElem?_append_right (by simp;omega),List.getElem?_append_right (by simp;omega)];simp
  exact kq e
 have B:∀ a,pre.length<=a/\a < pre.length+3->a=pre.length+0\/a=pre.length+1\/a=pre.length+2:=by intro a h;omega
 have y:tD g (g.set b (.cells (pre++[Value.bool o,j,m]++post).toArray t (0,0))):=λf a C d i=>by
  by_cases e:f=b/\pre.length<=a/\a < pre.length+3
  ·obtain⟨rfl,e⟩:=e;rcases B _ e with rfl|rfl|rfl
   ·rw[u 0 _ rfl]at d;cases d
   ·rw[u 1 _ rfl]at d;cases d
   rw[u 2 _ rfl]at d;cases d
  exact⟨C,by rw[other _ _ e];exact d,i⟩
 refine⟨y,λf a C d=>?_,λf a v l s i=>?_⟩
 ·by_cases e:f=b/\pre.length<=a/\a < pre.length+3
  ·obtain⟨rfl,e⟩:=e;rcases B _ e with rfl|rfl|rfl
   ·exact⟨o,same 0 _ rfl⟩
   ·rw[u 1 _ rfl]at d;cases d
   rw[u 2 _ rfl]at d;cases d
  exact⟨C,by rw[other _ _ e];exact d⟩
 by_cases e:f=b/\pre.length<=a/\a < pre.length+3
 ·obtain⟨rfl,e⟩:=e;rcases B _ e with rfl|rfl|rfl
  ·rw[u 0 _ rfl]at s;obtain⟨_,p,c,z,_⟩:=i;rw[<-Option.some.inj s]at z;cases z
  ·obtain⟨x,w,_⟩:=eP y H;exact⟨j,x,same 1 _ rfl,w⟩
  obtain⟨x,w,_⟩:=eP y z;exact⟨m,x,same 2 _ rfl,w⟩
 obtain⟨x,w,_⟩:=eP y i;exact⟨v,x,by rw[other _ _ e];exact s,w⟩
theorem nS (P:List Value) (u:aS) (m:cu) (h:Heap) (t w p3 x:Option Addr) (q J n3 s f g Q i:Nat) (G:cZ h P u) (hm:dO h [.int .i64 m.cls,.int .i64 m.er,.slice t q f,.int .i64 m.out,.int .i64 m.locals,.slice w J g,.slice p3 n3 Q,.slice x s i] m) (hV:D8 u) (j:MJ u m) :
  bI prog 86 [.agg ⟨P⟩,.agg #[.int .i64 m.cls,.int .i64 m.er,.slice t q f,.int .i64 m.out,.int .i64 m.locals,.slice w J g,.slice p3 n3 Q,.slice x s i]] h
   λv h'=>h.le h'/\∃ b c A,v=.agg #[.int .i64 m.cls,.int .i64 m.er,.slice t q f,.int .i64 m.out,.int .i64 m.locals,.slice w J g,.slice (some ⟨b,0,none⟩) A.length c,.slice x s i]/\fY h h' b c A/\A.length=m.code.length/\nP u.aq.length m.locals A:=by
 have oT:=G;have rG:=j.len;have MW:=λms m' a (hl:h.le a) hm' OC=>B9 P ms u m' a (G.le hl) hm' hV OC;obtain⟨ad,cc,ae,aa,rfl,hcs,kS,ko,hl2⟩:=G.form;obtain⟨a0,c0,s0,k0,X,i1,i2,i3,i4,r1,r2,r3,r4⟩:=hm;simp only[List.cons.injEq,and_true,true_and]at X;obtain⟨rfl,rfl,rfl,rfl⟩:=X;obtain⟨_,_,z,_,_⟩:=r2.len;simp only[Value.slice.injEq]at z;obtain⟨_,z,_⟩:=z;subst z;refine bT aB func86 Zx U rfl ?_;conv=>whnf
 refine dn [] rfl (λe S CQ e0 l1 g0=>?_);conv=>whnf
 have o0:bW 3 S (.slice (some ⟨e,0,none⟩) 0 0) [] [e]:=⟨Z,.inr ⟨e,0,[],_,rfl,Z,by simpa using g0,Z,rfl⟩⟩
 refine eu [2,3,4,5] [2,3,4] (λy:Nat × Heap × Option Addr × Nat × List (List Value) × List Nat=>y.1<=m.code.length/\h.le y.2.1/\bW 3 y.2.1 (.slice y.2.2.1 y.1 y.2.2.2.1) y.2.2.2.2.1 y.2.2.2.2.2/\y.2.2.2.2.1.length=y.1/\(∀ r∈y.2.2.2.2.1,wS r)/\∀ b∈y.2.2.2.2.2,h b=none) (λy=>m.code.length-y.1)
  (λy=>([.l 2 0,.l 3 0,.l 4 0,.v (.int .i64 y.1)],
   [some [.slice ad u.aq.length cc,.slice ae u.methods.length aa],some [.int .i64 m.cls,.int .i64 m.er,.slice t q f,.int .i64 m.out,.int .i64 m.locals,.slice w m.code.length g,.slice y.2.2.1 y.1 y.2.2.2.1,.slice x s i],some [.int .i64 0,.int .i64 0,.slice none 0 0,.int .i64 0,.int .i64 0,.slice none 0 0,.slice none 0 0,.slice none 0 0]],y.2.1))
  (0,S,some ⟨e,0,none⟩,0,[],[e]) ⟨O,l1,o0,rfl,Z,by simpa using CQ⟩ rfl ?_
 rintro⟨k,T,pa,ca,N,B⟩ ⟨hk,d,L,K,M,f2⟩;simp only at hk d L K M f2 ⊢;conv=>whnf
 apply aD<;>intro ab;all_goals conv=>whnf
 ·refine cO (iB T) (λv h3 a=>?_);have p:=a.1;refine⟨p,a.2.elim λD a=>a.elim λE H=>?_⟩;subst H;conv=>whnf
  refine cX (h0:=h) (xs:=N) (ys:=[[.bool false,.slice (some ⟨D,0,none⟩) 0 0,.slice (some ⟨E,0,none⟩) 0 0]]) (B:=B) (L.aJ (cD.of_le p _)) f2 (Heap.le_trans d p) rfl rfl Z rfl rfl (by simp;omega) (by simp;omega) ?_;intro v4 h4 B4 w1 w2 w3 w4 w5;have F:=w2.form;refine F.elim λp5 F=>F.elim λc5 hf=>?_;have Y:=hf.1;have V:(N++[[Value.bool false,.slice (some ⟨D,0,none⟩) 0 0,.slice (some ⟨E,0,none⟩) 0 0]]).length=k+1:=by simp[K]
  rw[V]at Y;subst Y;conv=>whnf
  refine av ?_;conv=>whnf
  refine cT (k+1,h4,p5,c5,N++[[.bool false,.slice (some ⟨D,0,none⟩) 0 0,.slice (some ⟨E,0,none⟩) 0 0]],B4) ⟨by simp only;omega,w1,w2,V,λr o=>?_,w3⟩ (by simp only;omega) rfl;rcases List.mem_append.1 o with o|o
  ·exact M r o
  rw[List.mem_singleton.1 o];exact⟨_,_,_,_,rfl⟩
 have UU:k=m.code.length:=by omega
 subst UU;obtain⟨b,rfl,a2⟩:=wT L K rG.1 M f2 d;have W:(List.replicate m.code.length j6).length=m.code.length:=by simp
 have row:=a2.uZ (by rw[W];omega);rw[W]at row;refine aG (MW [.int .i64 m.cls,.int .i64 m.er,.slice t q f,.int .i64 m.out,.int .i64 m.locals,.slice w m.code.length g,.slice (some ⟨b,0,none⟩) m.code.length ca,.slice x s i] {m with aT:=List.replicate m.code.length j6} T d ⟨_,_,_,_,rfl,i1,i2,i3,i4,r1.le d,r2.le d (λ_ _ I=>I),row,r4.le d (λ_ _ I=>I)⟩ ⟨j.head,j.len,j.code,j.cat⟩) (λv h3 a=>?_);have p:=a.1;refine a.2.elim λb3 a=>a.elim λLO a=>a.elim λA a=>?_;have H:=a.1;subst H;conv=>whnf
 have C:=a.2.1;exact⟨Heap.le_trans d p,b3,LO,A,rfl,⟨Heap.le_trans d C.le,bq d C.fr,C.row⟩,a.2.2.1,a.2.2.2⟩
def since (g0 g:Heap):Heap:=λx=>match g0 x with
 | none=>g x
 | some _=>none
theorem rB {g0 g:Heap} {x:Nat} {o:Obj} (h:g0 x=some o):since g0 g x=none:=by unfold since;rw[h]
theorem ef {g0 g:Heap} {x:Nat} (h:g0 x=none):since g0 g x=g x:=by unfold since;rw[h]
theorem dK {g0 g:Heap} {x:Nat} {o:Obj} (h:since g0 g x=some o):g0 x=none/\g x=some o:=by
 cases e:g0 x with
 | none=>rw[ef e]at h;exact⟨rfl,h⟩
 | some y=>rw[rB e]at h;cases h
theorem aQ (g0 g:Heap):(since g0 g).le g:=λx o a=>(dK a).2
theorem bE {g a:Heap} (g0:Heap) (f:g.le a):(since g0 g).le (since g0 a):=λx o i=>by
 obtain⟨d,e⟩:=dK i;rw[ef d];exact f x o e
theorem iD {g0 g:Heap} {B:List Nat} (a:∀ b∈B,g0 b=none):cD g (since g0 g) B:=λb d o e=>by rw[ef (a b d)];exact e
theorem mM {g0 g:Heap} {b:Nat} (a:g b=none):since g0 g b=none:=by
 unfold since;cases h:g0 b<;>simp[h,a]
theorem fk {g0 g:Heap} {b:Nat} {o:Obj} (a:g0 b=none):since g0 (g.set b o)=(since g0 g).set b o:=by
 funext x
 unfold since;simp only[Heap.set];by_cases e:x=b
 ·subst e;simp[a]
 simp[e]
theorem Ci {P:Program} {f:FuncId} {args:List Value} {g0 g:Heap} {R:Value->Heap->Prop} (h0:g0.le g) (D:bI P f args (since g0 g) R) :
  bI P f args g λv t=>(∀ b o,g0 b=some o->t b=some o)/\R v (since g0 t):=by
 intro w q;refine(D w (λs B a=>q s B (aQ g0 g s B a))).mono ?_;rintro e J ⟨i,m,j⟩;have z:∀ b o,g0 b=some o->b < w.heap.size:=λb o a=>dX (q b o (h0 b o a));have C:∀ b o,g0 b=some o->i b=none:=λb o u=>by
  cases a:i b with
  | none=>rfl
  | some x =>
   rcases m.tG b (by rw[a];simp)with d|d
   ·exact absurd (rB u) d
   have:=z b o u;omega
 let h':Heap:=λx=>match g0 x with
  | some o=>some o
  | none=>i x
 have y:∀ x o,g0 x=some o->h' x=some o:=λx o a=>by simp[h',a]
 have p:∀ x,g0 x=none->h' x=i x:=λx a=>by simp[h',a]
 have E:since g0 h'=i:=by
  funext x
  cases e:g0 x with
  | some o=>rw[rB e,C x o e]
  | none=>rw[ef e,p x e]
 have I:cK g w h' J:=by
  refine⟨λx K a=>?_,λx a G=>?_,λx a=>?_,m.size,m.fz,m.out⟩
  ·cases e:g0 x with
   | some o =>
    have F:=m.aJ x (z x o e) (rB e);rw[y x o e]at a;rw[F,<-a];exact q x o (h0 x o e)
   | none =>
    rw[p x e]at a;exact m.view x K a
  ·have H:since g0 g x=none:=mM G;exact m.aJ x a H
  cases e:g0 x with
  | some o=>left;rw[h0 x o e];simp
  | none =>
   rw[p x e]at a;rcases m.tG x a with d|d
   ·left;rwa [ef e]at d
   exact .inr d
 refine⟨h',I,?_⟩;cases e with
 | returned v=>exact⟨y,by rw[E];exact j⟩
 | panicked c=>exact j.elim
 | outgrown=>exact j.elim
theorem Af {g0 g a:Heap} (h:(since g0 g).le (since g0 a)) (h0:∀ b o,g0 b=some o->a b=some o) (f:g0.le g):g.le a:=λx o d=>by
 cases e:g0 x with
 | some y =>
  have:=f x y e;rw[d]at this;rw[h0 x y e,this]
 | none=>exact(dK (h x o (by rw[ef e];exact d))).2
theorem Jw {P:Program} {f:FuncId} {args:List Value} {g0 g:Heap} {d:Nat} {vb:Value} {p:Int} {R:Value->Heap->Prop} {K:Value->Heap->Prop} {E:List PanicEntry->Heap->Prop} (r:bz g d vb p) (h0:g0.le g) (j:bI P f args (since g0 g) λv i=>(since g0 g).le i/\R v i)
  (m:∀ v a,g.le a->bz a d vb p->R v (since g0 a)->K v (cN a d vb p)):Go.Vc.Call P f args (cN g d vb p) K E :=
 Jo r (R:=λv a=>R v (since g0 a)) (bI.mono (Ci h0 j) λv a e=>⟨Af e.2.1 e.1 h0,e.2.2⟩) m
def Jx (g:Heap):Prop:=∀(b:Nat) (a:Array Value) (t:TypeId) (z:Nat × Nat),g b=some (Obj.cells a t z)->z=(0,0)
theorem bW.yu {sz:Nat} {α:Type} {f:α->List Value} {Q:Heap->List Value->α->Prop} {h:Heap} {v:Value} {l:List α} {B:List Nat} (d:bW sz h v (l.map f) B) (w:l.length<=140737488351232) (C:∀ a∈l,Q h (f a) a):Row sz Q h v l:=by
 obtain⟨p,d⟩:=d;rcases d with ⟨rfl,y,_⟩|⟨b,c,rest,G,rfl,s,e,j,_⟩
 ·have:l=[]:=by simpa using y
  subst this;exact⟨Z,none,0,rfl,Z,.inl rfl⟩
 refine⟨w,_,c,Z,by simpa using s,.inr ⟨b,0,rfl,λi x g=>?_⟩⟩;have m:x∈l:=List.mem_of_getElem? g;obtain⟨t,u⟩:=List.getElem?_eq_some_iff.1 g;refine⟨f x,?_,C x m⟩;have o:l.map f=(l.take i).map f++f x::(l.drop (i+1)).map f:=by
  rw[<-u,<-List.map_cons,<-List.map_append,<-List.drop_eq_getElem_cons t,List.take_append_drop]
 have z:((l.take i).map f).flatten.length=i*sz:=by
  rw[bQ (sz:=sz)]
  ·rw[List.length_map,List.length_take,Nat.min_eq_left O]
  intro F E;exact p F (by rw[o];exact List.mem_append.2 (.inl E))
 have D:(f x).length=sz:=p _ (List.mem_map_of_mem m);rw[o]at e j;have:=bK e sz (0+i*sz) (by
  simp only[List.flatten_append,List.flatten_cons,List.length_append]at j ⊢;omega)
 rw[this];congr 1
 have q:((List.map f (List.take i l)++f x::List.map f (List.drop (i+1) l)).flatten++rest)=(List.map f (List.take i l)).flatten++(f x++((List.map f (List.drop (i+1) l)).flatten++rest)):=by simp
 rw[q,Nat.zero_add,<-z,List.drop_left,<-D,List.take_left]
theorem bW.MX {sz:Nat} {α:Type} {Q:Heap->List Value->α->Prop} {h:Heap} {v:Value} {recs:List (List Value)} {A:List α} {B:List Nat} (s:bW sz h v recs B) (f:recs.length=A.length) (q:A.length<=140737488351232) (u:∀ i (a:i < recs.length) (d:i < A.length),Q h recs[i] A[i]):Row sz Q h v A:=by
 obtain⟨m,⟨rfl,e,_⟩|⟨b,c,rest,D,rfl,C,g,j,_⟩⟩:=s
 ·subst e;have:A=[]:=List.eq_nil_of_length_eq_zero (by simpa using f.symm);subst this;exact⟨Z,none,0,rfl,Z,.inl rfl⟩
 refine⟨q,_,c,by rw[f],O,.inr ⟨b,0,rfl,λi E p=>?_⟩⟩;obtain⟨d,rfl⟩:=List.getElem?_eq_some_iff.1 p;have a:i < recs.length:=by rw[f];exact d
 refine⟨recs[i],?_,u i a d⟩;have t:(recs.take i).flatten.length=i*sz:=by
  rw[bQ (sz:=sz)]
  ·rw[List.length_take,Nat.min_eq_left O]
  intro z y;exact m z (List.mem_of_mem_take y)
 have w:recs.flatten++rest=(recs.take i).flatten++(recs[i]++((recs.drop (i+1)).flatten++rest)):=by
  have e:recs=recs.take i++recs[i]::recs.drop (i+1):=by rw[<-List.drop_eq_getElem_cons a,List.take_append_drop]
  have o:=congrArg List.flatten e;rw[o];simp only[List.flatten_append,List.flatten_cons,List.append_assoc]
 have x:recs[i].length=sz:=m _ (List.getElem_mem _);rw[w]at g j;rw[bK g sz (0+i*sz) (by simp only[List.length_append]at j ⊢;omega),Nat.zero_add,<-t,List.drop_left,<-x,List.take_left]
theorem iE {h:Heap} {b:Nat} {o:Obj} {A:List Nat} (a:b ∉ A):cD h (h.set b o) A:=λc d f e=>by
 have:c≠b:=by rintro rfl;exact a d
 simp only[Heap.set,this,if_false];exact e
def lJ (t:Int):Prop:=-1000<=t/\t<=1000
structure yG (gB g:Heap) (l1:List Int) (p1:Option Addr) (c1:Nat) (B1:List Nat) (l2:List Int) (p2:Option Addr) (c2:Nat) (B2:List Nat):Prop where
 le:gB.le g
 o1:dI g (.slice p1 l1.length c1) l1 B1
 o2:dI g (.slice p2 l2.length c2) l2 B2
 nd:Nd (B1++B2)
 fr:∀ b∈B1++B2,gB b=none
 t1:∀ t∈l1,lJ t
 t2:∀ t∈l2,lJ t
section
variable {gB g g':Heap} {l1 l2:List Int} {p1 p2:Option Addr} {c1 c2:Nat} {B1 B2:List Nat} {bb:Nat} {vb:Value} {q0 q:Int}
theorem yG.start (g:Heap):yG g g [] none 0 [] [] none 0 [] :=
 ⟨Heap.le_refl g,⟨Z,.inl ⟨rfl,rfl,rfl⟩⟩,⟨Z,.inl ⟨rfl,rfl,rfl⟩⟩,λa=>Z,Z,Z,Z⟩
theorem yG.swap (s:yG gB g l1 p1 c1 B1 l2 p2 c2 B2):yG gB g l2 p2 c2 B2 l1 p1 c1 B1 :=
 ⟨s.le,s.o2,s.o1,s.nd.perm λd=>by simp only[List.count_append];omega,λb a=>s.fr b (by simp at a ⊢;grind),s.t2,s.t1⟩
theorem yG.in (s:yG gB g l1 p1 c1 B1 l2 p2 c2 B2):∀ b∈B1++B2,∃ o,g b=some o:=λb a=>(List.mem_append.1 a).elim (s.o1.in b) (s.o2.in b)
theorem yG.zV {w:TypeId} {n m:Nat} {vs:List Value} {K:Value->Heap->Prop} (s:yG gB g l1 p1 c1 B1 l2 p2 c2 B2) (I:bz gB bb vb q0) (r:bz g bb vb q) (k:List Int) (j:n=l1.length) (i:m=k.length) (E:vs=k.map (Value.int .i64)) (C:l1.length+k.length<=1000000) (B:∀ t∈k,lJ t)
  (z:∀ f e g' B',yG gB g' (l1++k) f e B' l2 p2 c2 B2->bz g' bb vb q->K (.slice f (l1++k).length e) (cN g' bb vb q)):App 8 1 [.int .i64 0] w (cN g bb vb q) p1 n c1 m vs K:=by
 subst j E;have y:=s.in;refine q9 (k:=k) I r s.o1 (λb d=>s.fr b (by simp[d])) s.le i C (λf e g' B' F G u H o=>?_);refine z f e g' B' ⟨F,u,s.o2.aJ (o.aJ λb d x=>sE s.nd b x d),?_,λb d=>?_,λt D=>?_,s.t2⟩ G
 ·have:=Nd.swap (A:=B2) (X:=B1) (X':=B') (s.nd.perm λv=>by simp only[List.count_append];omega) u.nd (λb d=>(o.new b d).imp id λj i=>by
   obtain⟨J,p⟩:=y b (by simp[i]);rw[j]at p;cases p)
  exact this.perm λv=>by simp only[List.count_append];omega
 ·rcases List.mem_append.1 d with a|a
  ·exact H b a
  exact s.fr b (by simp[a])
 rcases List.mem_append.1 D with a|a
 ·exact s.t1 t a
 exact B t a
theorem yG.BU {e:TypeId} {n m:Nat} {vs:List Value} {K:Value->Heap->Prop} (s:yG gB g l1 p1 c1 B1 l2 p2 c2 B2) (x:bz gB bb vb q0) (r:bz g bb vb q) (k:List Int) (u:n=l2.length) (p:m=k.length) (w:vs=k.map (Value.int .i64)) (v:l2.length+k.length<=1000000) (o:∀ t∈k,lJ t)
  (j:∀ d a g' B',yG gB g' l1 p1 c1 B1 (l2++k) d a B'->bz g' bb vb q->K (.slice d (l2++k).length a) (cN g' bb vb q)):App 8 1 [.int .i64 0] e (cN g bb vb q) p2 n c2 m vs K :=
 s.swap.zV x r k u p w v o λd a g' B' f i=>j d a g' B' f.swap i
theorem vk {g0:Heap} {v:Value} {l:List Int} {B:List Nat} (h0:g0.le gB) (e:dI g v l B) (d:∀ b∈B,gB b=none) (f:∀ t∈l,lJ t) (i:l.length<=1000000):cR (since g0 g) v l :=
 bW.yu (e.aJ (iD λb a=>bq h0 (d b a))) O λt h=>⟨rfl,by have:=f t h;unfold lJ at this;unfold cH;omega⟩
def P3 (g0 g:Heap) (v:Value):Prop:=∃(e:Bool) (p1:Option Addr) (a c1:Nat) (p2:Option Addr) (d c2:Nat) (l1 l2:List Int),v=.agg #[.bool e,.slice p1 a c1,.slice p2 d c2]/\cR (since g0 g) (.slice p1 a c1) l1/\cR (since g0 g) (.slice p2 d c2) l2
theorem yG.ML {g0:Heap} (s:yG gB g l1 p1 c1 B1 l2 p2 c2 B2) (h0:g0.le gB) (d:Bool) (e:l1.length<=1000000) (f:l2.length<=1000000):P3 g0 g (.agg #[.bool d,.slice p1 l1.length c1,.slice p2 l2.length c2]) :=
 ⟨d,_,_,_,_,_,_,l1,l2,rfl,vk h0 s.o1 (λb a=>s.fr b (by simp[a])) s.t1 e,vk h0 s.o2 (λb a=>s.fr b (by simp[a])) s.t2 f⟩
end
theorem vm {g0 m:Heap} {e:Nat} {vb:Value} {p:Int} (n z:Int) (r:bz m e vb p) (hp:p<=80000000) (h0:g0.le m) (hn:1<=n/\n<=100) (hl:z<=100) :
  Dr prog 36 [.pointer (some ⟨e,0,none⟩),.int .i64 n,.int .i64 z] m e vb p 700 λI v=>P3 g0 I v:=by
 have W:=λI aa (r':bz I e vb aa) hq=>oH n r' hq (by omega:1<=n/\n<=1000);refine bT aB func36 G36 U rfl ?_;conv=>whnf
 refine eu [0,1,2,6,7,8] [6,7] (λy:Nat × (Heap × Int) × (List Int × Option Addr × Nat × List Nat)=>(y.1=0\/(y.1:Int)<=z)/\y.2.2.1.length=y.1/\bz y.2.1.1 e vb y.2.1.2/\p<=y.2.1.2/\y.2.1.2<=p+4*(y.1:Int)/\yG m y.2.1.1 y.2.2.1 y.2.2.2.1 y.2.2.2.2.1 y.2.2.2.2.2 [] none 0 []) (λy=>z.toNat-y.1)
  (λy=>([.v (.pointer (some ⟨e,0,none⟩)),.v (.int .i64 n),.v (.int .i64 z),.l 6 0,.l 7 0,.v (.int .i64 y.1)],[some [.bool false,.slice none 0 0,.slice none 0 0],some [.bool true,.slice y.2.2.2.1 y.1 y.2.2.2.2.1,.slice none 0 0]],cN y.2.1.1 e vb y.2.1.2))
  (0,(m,p),([],none,0,[])) ⟨.inl rfl,rfl,r,by simp only;omega,by simp only;omega,yG.start m⟩ rfl ?_
 rintro⟨ad,⟨g1,q1⟩,⟨u,Y,T,B1⟩⟩ ⟨hi,X,F,IL,oL,H⟩;simp only at hi X F IL oL H ⊢;subst X;conv=>whnf
 apply aD<;>intro gi;all_goals conv=>whnf
 ·refine fq F (W _ _ F O) (λv g2 q2 w G Q3 Q4 M=>?_);obtain⟨rfl,t,rfl,t0,t1⟩:=M;conv=>whnf
  refine H.zV r G [t] rfl rfl rfl (by simp;omega) (λx d=>by rw[List.mem_singleton.1 d];unfold lJ;omega) (λp2 V J S a s=>?_);conv=>whnf
  refine av ?_;conv=>whnf
  exact cT (u.length+1,(J,q2),(u++[t],p2,V,S)) ⟨.inr (by simp only;omega),Z,s,by simp only;omega,by simp only;omega,a⟩ (by simp only;omega) (by simp only[List.length_append,List.length_singleton];rfl)
 have ko:u.length<=100:=by omega
 refine bB F O (λk E N k2 G=>?_);conv=>whnf
 refine eu [0,1,6,7,9] [6,7] (λy:Int × (Heap × Int) × (List Int × Option Addr × Nat × List Nat)=>0<=y.1/\(y.2.2.1.length:Int)+y.1<=4/\bz y.2.1.1 e vb y.2.1.2/\p<=y.2.1.2/\y.2.1.2<=p+450-6*y.1/\yG m y.2.1.1 u Y T B1 y.2.2.1 y.2.2.2.1 y.2.2.2.2.1 y.2.2.2.2.2) (λy=>y.1.toNat)
  (λy=>([.v (.pointer (some ⟨e,0,none⟩)),.v (.int .i64 n),.l 6 0,.l 7 0,.v (.int .i64 y.1)],[some [.bool false,.slice none 0 0,.slice none 0 0],some [.bool true,.slice Y u.length T,.slice y.2.2.2.1 y.2.2.1.length y.2.2.2.2.1]],cN y.2.1.1 e vb y.2.1.2))
  (k,(g1,q1+1),([],none,0,[])) ⟨E,by simp;omega,G,by simp only;omega,by simp only;omega,H⟩ rfl ?_
 clear G H E N k2;rintro⟨k,⟨J,q3⟩,⟨w,p2,V,S⟩⟩ ⟨E,N,s,vS,WB,a⟩;simp only at E N s vS WB a ⊢;conv=>whnf
 apply aD<;>intro gk;all_goals conv=>whnf
 ·refine fq s (W _ _ s O) (λv g4 B l4 g Hf Hg M=>?_);obtain⟨rfl,t,rfl,t0,t1⟩:=M;conv=>whnf
  have fin:∀(x P:Int),lJ x->bz g4 e vb P->B<=P->P<=B+1->True:=λ_ _ _ _ _ _=>trivial;apply aD<;>intro K;all_goals conv=>whnf
  ·refine bB g O (λab z0 z1 z2 r5=>?_);conv=>whnf
   apply aD<;>intro f;all_goals conv=>whnf
   ·refine a.BU r r5 [1] rfl rfl rfl (by simp;omega) (λx d=>by rw[List.mem_singleton.1 d];unfold lJ;omega) (λo j f i C q=>?_);conv=>whnf
    refine av ?_;conv=>whnf
    exact cT (k-1,(f,B+1),(w++[1],o,j,i)) ⟨by simp only;omega,by simp;omega,q,by simp only;omega,by simp only;omega,C⟩ (by simp only;omega) (by simp only[List.length_append,List.length_singleton];rfl)
   refine a.BU r r5 [t] rfl rfl rfl (by simp;omega) (λx d=>by rw[List.mem_singleton.1 d];unfold lJ;omega) (λo j f i C q=>?_);conv=>whnf
   refine av ?_;conv=>whnf
   exact cT (k-1,(f,B+1),(w++[t],o,j,i)) ⟨by simp only;omega,by simp;omega,q,by simp only;omega,by simp only;omega,C⟩ (by simp only;omega) (by simp only[List.length_append,List.length_singleton];rfl)
  refine a.BU r g [t] rfl rfl rfl (by simp;omega) (λx d=>by rw[List.mem_singleton.1 d];unfold lJ;omega) (λo j f i C q=>?_);conv=>whnf
  refine av ?_;conv=>whnf
  exact cT (k-1,(f,B),(w++[t],o,j,i)) ⟨by simp only;omega,by simp;omega,q,by simp only;omega,by simp only;omega,C⟩ (by simp only;omega) (by simp only[List.length_append,List.length_singleton];rfl)
 have hl2:w.length<=100:=by omega
 refine bB s O (λab z0 z1 z2 g=>?_);conv=>whnf
 apply aD<;>intro K;all_goals conv=>whnf
 ·refine Jo g (iB J) (λv f l6 q hh=>?_);obtain⟨b1,b2,rfl⟩:=hh;conv=>whnf
  exact⟨_,_,rfl,Heap.le_trans a.le l6,q.free,O,O,false,_,_,_,_,_,_,[],[],rfl,fO _ _ _,fO _ _ _⟩
 apply aD<;>intro f;all_goals conv=>whnf
 ·exact⟨_,_,rfl,a.le,g.free,O,O,a.ML h0 false O O⟩
 apply aD<;>intro g7;all_goals conv=>whnf
 ·refine a.zV r g [1] rfl rfl rfl (by simp;omega) (λx d=>by rw[List.mem_singleton.1 d];unfold lJ;omega) (λo j L i D Q=>?_);conv=>whnf
  exact⟨_,_,rfl,D.le,Q.free,O,O,D.ML h0 true (by simp;omega) O⟩
 apply aD<;>intro L;all_goals conv=>whnf
 ·refine a.BU r g [1,1,1,1] rfl rfl rfl (by simp;omega) (λx d=>by simp at d;subst d;unfold lJ;omega) (λo j L i D Q=>?_);conv=>whnf
  exact⟨_,_,rfl,D.le,Q.free,O,O,D.ML h0 true O (by simp;omega)⟩
 exact⟨_,_,rfl,a.le,g.free,O,O,a.ML h0 true O O⟩
open Go.Vc Go.Proofs.Tryz
set_option maxRecDepth 100000
set_option maxHeartbeats 4000000
def Ag (c:dH):Prop:=cH c.bO/\c.fields.length<=1000/\∀ t∈c.fields,cH t
theorem cn.bd {cs:List dH} (ok:cn cs):∀ c∈cs,Ag c:=λc a=>by
 obtain⟨i,d,rfl⟩:=List.mem_iff_getElem.1 a;obtain⟨f1,f2,f3,f4,f5⟩:=ok.2.2 i d;have g:=ok.2.1;refine⟨?_,O,λt f=>?_⟩
 ·unfold cH;have:i=0\/i=1\/1 < i:=by omega
  rcases this with e|e|e
  ·have:=f2 e;omega
  ·have:=f3 e;omega
  have:=f4 e;omega
 have:=f1 t f;unfold cL at this;unfold cH;omega
theorem jE {g0 g:Heap} {v:Value} {cs:List dH} {B:List Nat} (o:dR lI 2 g v cs B) (m:∀ b∈B,g0 b=none) (j:∀ c∈cs,Ag c) (s:cs.length<=1000):eD (since g0 g) v cs :=
 (o.aJ oY (iD m)).row O λx d C i f=>by
  obtain⟨w,e,q⟩:=f;have a:=j d i;exact⟨w,e,a.1,bW.yu q (by have:=a.2.1;omega) λt p=>⟨rfl,a.2.2 t p⟩⟩
theorem Row.first {α:Type} {sz:Nat} {R:Heap->List Value->α->Prop} {h:Heap} {p:Option Addr} {n c:Nat} {l:List α} (j:Row sz R h (.slice p n c) l) {m:Nat} (v:m<=l.length):Row sz R h (.slice p m c) (l.take m):=by
 obtain⟨t,w,s,d,u,e⟩:=j;simp only[Value.slice.injEq]at d;obtain⟨rfl,rfl,rfl⟩:=d;have g:(l.take m).length=m:=by rw[List.length_take];omega
 refine⟨O,p,c,by rw[g],O,?_⟩;rcases e with rfl|⟨b,q,rfl,o⟩
 ·exact .inl Z
 refine .inr ⟨b,q,rfl,λi x a=>?_⟩;have f:i < m:=by have:=(List.getElem?_eq_some_iff.1 a).1;omega
 rw[List.getElem?_take_of_lt f]at a;exact o i x a
def yw (g0 g:Heap) (v:Value):Prop:=∃(p:Option Addr) (n c:Nat) (a:List dH),v=.slice p n c/\eD (since g0 g) (.slice p n c) a
theorem Jy {g:Heap} {a:Nat} {vb:Value} {p:Int} {K:Value->Heap->Prop} {E:List PanicEntry->Heap->Prop} (r:bz g a vb p) (e:p<=1000000000)
  (i:bz g a vb (p+1)->K (.int .i64 0) (cN g a vb (p+1))) (j:bz g a vb (p+1)->K (.int .i64 1) (cN g a vb (p+1))) (m:bz g a vb (p+1)->K (.int .i64 2) (cN g a vb (p+1))) (o:bz g a vb (p+1)->K (.int .i64 3) (cN g a vb (p+1))) :
  Go.Vc.Call prog 12 [.pointer (some ⟨a,0,none⟩),.int .i64 4] (cN g a vb p) K E :=
 bB r e λs q t _ d=>by
  have f:s=0\/s=1\/s=2\/s=3:=by omega
  rcases f with rfl|rfl|rfl|rfl
  ·exact i d
  ·exact j d
  ·exact m d
  exact o d
theorem Hh {g0 Q:Heap} {I:Nat} {vb:Value} {p:Int} (r:bz Q I vb p) (hp:p<=70000000) (h0:g0.le Q) :
  Dr prog 87 [.pointer (some ⟨I,0,none⟩)] Q I vb p 120 λe v=>yw g0 e v:=by
 refine bT aB func87 G87 U rfl ?_;conv=>whnf
 refine fq r (rj r O) (λv G q1 l1 r1 Vg Vh hA=>?_);obtain⟨a,T,oc,KP,B,ok⟩:=hA;have E:=oc.form;obtain⟨cp,V,rfl,KQ⟩:=E;have WG:=ok.1;have hn5:=ok.2.1;have plain:yw g0 G (.slice cp a.length V):=⟨_,_,_,a,rfl,jE oc (λb C=>bq h0 (B b C)) ok.bd O⟩
 conv=>whnf
 refine bB r1 O (λy y0 y1 y2 r2=>?_);conv=>whnf
 apply aD<;>intro ga;all_goals conv=>whnf
 ·exact⟨_,_,rfl,l1,r2.free,O,O,plain⟩
 refine bB r2 O (λx x0 x1 x2 r3=>?_);have hx:x.toNat < a.length:=by omega
 conv=>whnf
 refine bB r3 O (λP z0 z1 z2 Y=>?_);conv=>whnf
 apply aD<;>intro gb;all_goals conv=>whnf
 ·refine bB Y O (λag s0 s1 s2 r5=>?_);conv=>whnf
  have CZ:a=a.take x.toNat++a[x.toNat]::a.drop (x.toNat+1):=by rw[<-List.drop_eq_getElem_cons hx,List.take_append_drop]
  have Jz:dR lI 2 G (.slice cp a.length V) (a.take x.toNat++a[x.toNat]::a.drop (x.toNat+1)) T:=by rw[<-CZ];exact oc
  have E:=Jz.at oY;obtain⟨b,c,xr,pre,post,N,g,m,s,KQ,C,wB,LS,X,S,ju⟩:=E;simp only[Value.slice.injEq]at s;obtain⟨hq,_,yx⟩:=s;subst hq yx;obtain⟨af,rfl,L⟩:=X;have E:=L.form;obtain⟨K,J,rfl,JA⟩:=E;have DI:(a[x.toNat].fields.map bP).length=a[x.toNat].fields.length:=by simp
  rw[DI]at C L JA;have zX:pre.length=x.toNat*2:=by rw[wB,List.length_take,Nat.min_eq_left O]
  have w:∀ y,y∈b::g++m->y∈T:=λy d=>by
   have f:=List.count_pos_iff.2 d;refine List.count_pos_iff.1 ?_;rw[S y];exact f
  have H:Nd (b::g++m):=KP.perm λaa=>(S aa).symm;have KR:b ∉ g:=λD=>by have:=H b;have:=List.count_pos_iff.2 D;simp only[List.cons_append,List.count_cons,List.count_append,beq_self_eq_true,if_true]at *;omega
  have KS:b ∉ m:=λD=>by have:=H b;have:=List.count_pos_iff.2 D;simp only[List.cons_append,List.count_cons,List.count_append,beq_self_eq_true,if_true]at *;omega
  have Hi:∀ y∈g,y ∉ m:=λy f F=>by have:=H y;have:=List.count_pos_iff.2 f;have:=List.count_pos_iff.2 F;simp only[List.cons_append,List.count_cons,List.count_append]at *;omega
  have JB:g0 b=none:=bq h0 (B b (w b Z));have JC:∀ y∈g,g0 y=none:=λy d=>bq h0 (B y (w y (by simp[d])));have P4:∀ y∈m,g0 y=none:=λy d=>bq h0 (B y (w y (by simp[d])));have done:∀(e:Heap) (t:List Value) (z:dH) (q:List Nat),e b=some (.cells (pre++t++post).toArray N (0,0))->t.length=2->lI e t z q->cD G e g->Ag z->(∀ y∈q,g0 y=none)->yw g0 e (.slice (some ⟨b,0,none⟩) a.length V):=λe t z q f F h3 h4 h5 W=>by
   obtain⟨B2,o2,c2⟩:=ju e t z q f F h3 h4;refine⟨_,_,_,_,rfl,jE o2 (λy d=>?_) (λP hz=>?_) (by simp;omega)⟩
   ·have j:=List.count_pos_iff.2 d;have o:y∈b::g++q:=by
     refine List.count_pos_iff.1 ?_;rw[<-c2 y];exact j
    simp only[List.cons_append,List.mem_cons,List.mem_append]at o;rcases o with rfl|o|o
    ·exact JB
    ·exact JC y o
    exact W y o
   rcases List.mem_append.1 hz with j|j
   ·exact ok.bd P (List.mem_of_mem_take j)
   rcases List.mem_cons.1 j with rfl|j
   ·exact h5
   exact ok.bd P (List.mem_of_mem_drop j)
  have H9:=ok.bd _ (List.getElem_mem hx);have H6:Q b=none:=B b (w b Z);refine av ?_;conv=>whnf
  refine ay ?_;conv=>whnf
  refine ptr ?_;conv=>whnf
  refine gS r5.free C (by simp;omega) (gW (i:=0) (by simp only;omega) Z) ?_;conv=>whnf
  refine⟨_,_,rfl,Heap.aR l1 H6,?_,O,O,done _ [.int .i64 (ag-1),.slice K _ J] ⟨ag-1,a[x.toNat].fields⟩ m (cB _ _ _) rfl ⟨_,rfl,L.aJ (iE KS)⟩ (iE KR) ⟨by unfold cH;simp only;omega,H9.2⟩ P4⟩;have pV:I≠b:=λs=>by have:=r5.free;rw[s,C]at this;cases this
  simp[Heap.set,pV,r5.free]
 apply aD<;>intro gc;all_goals conv=>whnf
 ·skip
  have CZ:a=a.take x.toNat++a[x.toNat]::a.drop (x.toNat+1):=by rw[<-List.drop_eq_getElem_cons hx,List.take_append_drop]
  have Jz:dR lI 2 G (.slice cp a.length V) (a.take x.toNat++a[x.toNat]::a.drop (x.toNat+1)) T:=by rw[<-CZ];exact oc
  have E:=Jz.at oY;obtain⟨b,c,xr,pre,post,N,g,m,s,KQ,C,wB,LS,X,S,ju⟩:=E;simp only[Value.slice.injEq]at s;obtain⟨hq,_,yx⟩:=s;subst hq yx;obtain⟨af,rfl,L⟩:=X;have E:=L.form;obtain⟨K,J,rfl,JA⟩:=E;have DI:(a[x.toNat].fields.map bP).length=a[x.toNat].fields.length:=by simp
  rw[DI]at C L JA;have zX:pre.length=x.toNat*2:=by rw[wB,List.length_take,Nat.min_eq_left O]
  have w:∀ y,y∈b::g++m->y∈T:=λy d=>by
   have f:=List.count_pos_iff.2 d;refine List.count_pos_iff.1 ?_;rw[S y];exact f
  have H:Nd (b::g++m):=KP.perm λaa=>(S aa).symm;have KR:b ∉ g:=λD=>by have:=H b;have:=List.count_pos_iff.2 D;simp only[List.cons_append,List.count_cons,List.count_append,beq_self_eq_true,if_true]at *;omega
  have KS:b ∉ m:=λD=>by have:=H b;have:=List.count_pos_iff.2 D;simp only[List.cons_append,List.count_cons,List.count_append,beq_self_eq_true,if_true]at *;omega
  have Hi:∀ y∈g,y ∉ m:=λy f F=>by have:=H y;have:=List.count_pos_iff.2 f;have:=List.count_pos_iff.2 F;simp only[List.cons_append,List.count_cons,List.count_append]at *;omega
  have JB:g0 b=none:=bq h0 (B b (w b Z));have JC:∀ y∈g,g0 y=none:=λy d=>bq h0 (B y (w y (by simp[d])));have P4:∀ y∈m,g0 y=none:=λy d=>bq h0 (B y (w y (by simp[d])));have done:∀(e:Heap) (t:List Value) (z:dH) (q:List Nat),e b=some (.cells (pre++t++post).toArray N (0,0))->t.length=2->lI e t z q->cD G e g->Ag z->(∀ y∈q,g0 y=none)->yw g0 e (.slice (some ⟨b,0,none⟩) a.length V):=λe t z q f F h3 h4 h5 W=>by
   obtain⟨B2,o2,c2⟩:=ju e t z q f F h3 h4;refine⟨_,_,_,_,rfl,jE o2 (λy d=>?_) (λP hz=>?_) (by simp;omega)⟩
   ·have j:=List.count_pos_iff.2 d;have o:y∈b::g++q:=by
     refine List.count_pos_iff.1 ?_;rw[<-c2 y];exact j
    simp only[List.cons_append,List.mem_cons,List.mem_append]at o;rcases o with rfl|o|o
    ·exact JB
    ·exact JC y o
    exact W y o
   rcases List.mem_append.1 hz with j|j
   ·exact ok.bd P (List.mem_of_mem_take j)
   rcases List.mem_cons.1 j with rfl|j
   ·exact h5
   exact ok.bd P (List.mem_of_mem_drop j)
  have H9:=ok.bd _ (List.getElem_mem hx);have H6:Q b=none:=B b (w b Z);have e1:rd (cN G I vb (q1+1+1+1)) b (0+x.toNat*2+1)=some (.slice K a[x.toNat].fields.length J):=aW (aX Y.free) (bA C (i:=1) O rfl);have e2:rd (cN G I vb (q1+1+1+1+1)) b (0+x.toNat*2+1)=some (.slice K a[x.toNat].fields.length J):=aW (aX Y.free) (bA C (i:=1) O rfl);have fl:=H9.2.1;have fl2:a[x.toNat].fields.length<=2:=(ok.2.2 _ hx).2.2.2.2;have AK:∀(u:Heap) (M:List Nat),Ev G u m M->u b=some (.cells (pre++[Value.int .i64 a[x.toNat].bO,.slice K a[x.toNat].fields.length J]++post).toArray N (0,0))/\b ∉ M:=λu M ev=>by
   refine⟨by rw[ev.qv b (by rw[C];simp) KS];exact C,λD=>?_⟩;rcases ev.new b D with f|f
   ·exact KS f
   rw[C]at f;cases f
  have fin:∀(c0:Int) (p':Option Addr) (c':Nat) (u:Heap) (M:List Nat),-1000<=c0/\c0<=1000->Q.le u->bz u I vb (q1+1+1+1+1)->dI u (.slice p' (a[x.toNat].fields++[c0]).length c') (a[x.toNat].fields++[c0]) M->(∀ y∈M,Q y=none)->Ev G u m M ->
    ∃ e ad,cN (u.set b (.cells (pre++[Value.int .i64 a[x.toNat].bO,.slice p' (a[x.toNat].fields++[c0]).length c']++post).toArray N (0,0))) I vb (q1+1+1+1+1)=cN e I vb ad/\Q.le e/\e I=none/\p<=ad/\ad<=p+120/\yw g0 e (.slice (some ⟨b,0,none⟩) a.length V):=λc0 p' c' u M Ys k1 k2 k3 k4 ev=>by
   have W:=AK u M ev;refine⟨_,_,rfl,Heap.aR k1 H6,?_,O,O,done _ [.int .i64 a[x.toNat].bO,.slice p' (a[x.toNat].fields++[c0]).length c'] ⟨a[x.toNat].bO,a[x.toNat].fields++[c0]⟩ M (cB _ _ _) rfl ⟨_,rfl,k3.aJ (iE W.2)⟩ (λc hc ae ho=>iE KR c hc ae (by rw[ev.qv c (by rw[ho];simp) (Hi c hc)];exact ho)) ⟨H9.1,by simp;omega,λN ht=>?_⟩ (λy d=>bq h0 (k4 y d))⟩
   ·have pV:I≠b:=λs=>by have:=k2.free;rw[s,W.1]at this;cases this
    simp[Heap.set,pV,k2.free]
   rcases List.mem_append.1 ht with f|f
   ·exact H9.2.2 N f
   rw[List.mem_singleton.1 f];unfold cH;omega
  repeat' ((first|exact trivial|apply And.intro|refine ld e1 ?_|refine ld e2 ?_|refine ptr ?_|refine ay ?_|refine Jy Y O (λr5=>?_) (λr5=>?_) (λr5=>?_) (λr5=>?_)|refine q9 (k:=[_]) r (bz.on Y O) L (λy d=>B y (w y (by simp[d]))) l1 rfl (by simp;omega) (λp' c' u M k1 k2 k3 k4 ev=>?_)|refine gS k2.free (AK _ _ ev).1 (by simp;omega) (gW (i:=1) (by simp only;omega) Z) ?_|exact fin _ _ _ _ _ O k1 k2 k3 k4 ev)<;>conv=>whnf)
 apply aD<;>intro gd;all_goals conv=>whnf
 ·refine ay ?_;conv=>whnf
  obtain⟨_,_,_,Nx,s,hcs⟩:=plain;simp only[Value.slice.injEq]at s;obtain⟨rfl,rfl,rfl⟩:=s;have XD:1<=Nx.length:=by
   obtain⟨_,_,s,_,_⟩:=hcs.len;simp only[Value.slice.injEq]at s;omega
  exact⟨_,_,rfl,l1,Y.free,O,O,_,_,_,_,rfl,hcs.first XD⟩
 apply aD<;>intro ge;all_goals conv=>whnf
 ·have Vi:1 < a.length:=by omega
  have ocp:=oc;have CZ:a=a.take 1++a[1]::a.drop (1+1):=by rw[<-List.drop_eq_getElem_cons Vi,List.take_append_drop]
  have Jz:dR lI 2 G (.slice cp a.length V) (a.take 1++a[1]::a.drop (1+1)) T:=by rw[<-CZ];exact oc
  have E:=Jz.at oY;obtain⟨b,c,xr,pre,post,N,g,m,s,KQ,C,wB,LS,X,S,ju⟩:=E;simp only[Value.slice.injEq]at s;obtain⟨hq,_,yx⟩:=s;subst hq yx;obtain⟨af,rfl,L⟩:=X;have E:=L.form;obtain⟨K,J,rfl,JA⟩:=E;have DI:(a[1].fields.map bP).length=a[1].fields.length:=by simp
  rw[DI]at C L JA;have zX:pre.length=1*2:=by rw[wB,List.length_take,Nat.min_eq_left O]
  have w:∀ y,y∈b::g++m->y∈T:=λy d=>by
   have f:=List.count_pos_iff.2 d;refine List.count_pos_iff.1 ?_;rw[S y];exact f
  have H:Nd (b::g++m):=KP.perm λaa=>(S aa).symm;have KR:b ∉ g:=λD=>by have:=H b;have:=List.count_pos_iff.2 D;simp only[List.cons_append,List.count_cons,List.count_append,beq_self_eq_true,if_true]at *;omega
  have KS:b ∉ m:=λD=>by have:=H b;have:=List.count_pos_iff.2 D;simp only[List.cons_append,List.count_cons,List.count_append,beq_self_eq_true,if_true]at *;omega
  have Hi:∀ y∈g,y ∉ m:=λy f F=>by have:=H y;have:=List.count_pos_iff.2 f;have:=List.count_pos_iff.2 F;simp only[List.cons_append,List.count_cons,List.count_append]at *;omega
  have JB:g0 b=none:=bq h0 (B b (w b Z));have JC:∀ y∈g,g0 y=none:=λy d=>bq h0 (B y (w y (by simp[d])));have P4:∀ y∈m,g0 y=none:=λy d=>bq h0 (B y (w y (by simp[d])));have done:∀(e:Heap) (t:List Value) (z:dH) (q:List Nat),e b=some (.cells (pre++t++post).toArray N (0,0))->t.length=2->lI e t z q->cD G e g->Ag z->(∀ y∈q,g0 y=none)->yw g0 e (.slice (some ⟨b,0,none⟩) a.length V):=λe t z q f F h3 h4 h5 W=>by
   obtain⟨B2,o2,c2⟩:=ju e t z q f F h3 h4;refine⟨_,_,_,_,rfl,jE o2 (λy d=>?_) (λP hz=>?_) (by simp;omega)⟩
   ·have j:=List.count_pos_iff.2 d;have o:y∈b::g++q:=by
     refine List.count_pos_iff.1 ?_;rw[<-c2 y];exact j
    simp only[List.cons_append,List.mem_cons,List.mem_append]at o;rcases o with rfl|o|o
    ·exact JB
    ·exact JC y o
    exact W y o
   rcases List.mem_append.1 hz with j|j
   ·exact ok.bd P (List.mem_of_mem_take j)
   rcases List.mem_cons.1 j with rfl|j
   ·exact h5
   exact ok.bd P (List.mem_of_mem_drop j)
  have H9:=ok.bd _ (List.getElem_mem Vi);have H6:Q b=none:=B b (w b Z);obtain⟨xs,B0,B1,oC,X,Vj⟩:=ocp;have XF:=X.len;have e1:dQ (cN G I vb (q1+1+1+1)) b (0+1*2) 2=some [.int .i64 a[1].bO,.slice K a[1].fields.length J]:=by
   refine bG (aX Y.free) ?_;rw[bK C 2 (0+1*2) (by simp;omega),List.append_assoc,show 0+1*2=pre.length by omega,List.drop_left];rfl
  have Vk:∀ y∈B1,y ∉ B0:=λy f F=>by
   have:=KP y;have:=List.count_pos_iff.2 f;have:=List.count_pos_iff.2 F;rw[Vj]at *;simp only[List.count_append]at *;omega
  have fin:∀(v':Value) (u:Heap) (M:List Nat),Q.le u->bz u I vb (q1+1+1+1)->bW 2 u v' (xs++[[.int .i64 a[1].bO,.slice K a[1].fields.length J],[.int .i64 a[1].bO,.slice K a[1].fields.length J],[.int .i64 a[1].bO,.slice K a[1].fields.length J],[.int .i64 a[1].bO,.slice K a[1].fields.length J]]) M->(∀ y∈M,Q y=none)->(∀ y,y ∉ B0->G y≠none->u y=G y) ->
    ∃ e ad,cN u I vb (q1+1+1+1)=cN e I vb ad/\Q.le e/\e I=none/\p<=ad/\ad<=p+120/\yw g0 e v':=λv' u M k1 k2 k3 k4 k5=>by
   have E:=k3.form;obtain⟨p6,c6,rfl,_⟩:=E;have kp:∀ ab:List Nat,(∀ y∈ab,y∈T/\y ∉ B0)->cD G (since g0 u) ab:=λab hC y d ae ho=>by
    rw[ef (bq h0 (B y (hC y d).1)),k5 y (hC y d).2 (by rw[ho];simp)];exact ho
   have QW:=X.aJ oY (kp B1 λy d=>⟨by rw[Vj];simp[d],Vk y d⟩);have hBi:∀ y∈m,y∈T/\y ∉ B0:=λy d=>⟨w y (by simp[d]),λD=>by
    obtain⟨_,⟨he,_,_⟩|⟨b',_,_,_,he,_,_,_,Vm⟩⟩:=oC
    ·cases he
    simp only[Value.slice.injEq,Option.some.injEq,Addr.mk.injEq]at he;rw[Vm,List.mem_singleton,<-he.1.1]at D;exact KS (by rw[<-D];exact d)⟩
   have ow6:lI (since g0 u) [.int .i64 a[1].bO,.slice K a[1].fields.length J] a[1] m:=⟨_,rfl,L.aJ (kp m hBi)⟩
   have XG:∀(x:List Value) (c:dH) (ab:List Nat),lI (since g0 u) x c ab->Ag c->vQ (since g0 u) x c:=λx c ab ho hc=>by
    obtain⟨af,s,ae⟩:=ho;exact⟨af,s,hc.1,bW.yu ae (by have:=hc.2.1;omega) λN ht=>⟨rfl,hc.2.2 N ht⟩⟩
   refine⟨_,_,rfl,k1,k2.free,O,O,_,_,_,a++[a[1],a[1],a[1],a[1]],rfl,(k3.aJ (iD λy d=>bq h0 (k4 y d))).MX (by simp[XF]) (by simp;omega) λi f F=>?_⟩;by_cases hi:i < a.length
   ·rw[List.getElem_append_left O,List.getElem_append_left hi];obtain⟨ab,hC⟩:=QW.mem i hi O;exact XG _ _ ab hC (ok.bd _ (List.getElem_mem hi))
   simp only[List.length_append,List.length_cons,List.length_nil]at F;have h3:i=a.length\/i=a.length+1\/i=a.length+2\/i=a.length+3:=by omega
   have key:=XG _ _ m ow6 (ok.bd _ (List.getElem_mem Vi));rcases h3 with rfl|rfl|rfl|rfl;all_goals
    rw[List.getElem_append_right O,List.getElem_append_right O];simp only[XF,Nat.sub_self,Nat.add_sub_cancel_left,List.getElem_cons_zero,List.getElem_cons_succ];exact key
  repeat' ((first|exact trivial|apply And.intro|refine dh e1 ?_|refine ptr ?_|refine ay ?_|refine kK r Y (ys:=[[.int .i64 a[1].bO,.slice K a[1].fields.length J],[.int .i64 a[1].bO,.slice K a[1].fields.length J],[.int .i64 a[1].bO,.slice K a[1].fields.length J],[.int .i64 a[1].bO,.slice K a[1].fields.length J]]) oC (λy d=>B y (by rw[Vj];simp[d])) l1 rfl rfl Z rfl rfl (by simp;omega) (by simp;omega) (λv' u M k1 k2 k3 k4 k5 k6=>?_)|exact fin _ _ _ k1 k2 k3 k4 k5)<;>conv=>whnf)
 apply aD<;>intro gf;all_goals conv=>whnf
 ·skip
  have CZ:a=a.take x.toNat++a[x.toNat]::a.drop (x.toNat+1):=by rw[<-List.drop_eq_getElem_cons hx,List.take_append_drop]
  have Jz:dR lI 2 G (.slice cp a.length V) (a.take x.toNat++a[x.toNat]::a.drop (x.toNat+1)) T:=by rw[<-CZ];exact oc
  have E:=Jz.at oY;obtain⟨b,c,xr,pre,post,N,g,m,s,KQ,C,wB,LS,X,S,ju⟩:=E;simp only[Value.slice.injEq]at s;obtain⟨hq,_,yx⟩:=s;subst hq yx;obtain⟨af,rfl,L⟩:=X;have E:=L.form;obtain⟨K,J,rfl,JA⟩:=E;have DI:(a[x.toNat].fields.map bP).length=a[x.toNat].fields.length:=by simp
  rw[DI]at C L JA;have zX:pre.length=x.toNat*2:=by rw[wB,List.length_take,Nat.min_eq_left O]
  have w:∀ y,y∈b::g++m->y∈T:=λy d=>by
   have f:=List.count_pos_iff.2 d;refine List.count_pos_iff.1 ?_;rw[S y];exact f
  have H:Nd (b::g++m):=KP.perm λaa=>(S aa).symm;have KR:b ∉ g:=λD=>by have:=H b;have:=List.count_pos_iff.2 D;simp only[List.cons_append,List.count_cons,List.count_append,beq_self_eq_true,if_true]at *;omega
  have KS:b ∉ m:=λD=>by have:=H b;have:=List.count_pos_iff.2 D;simp only[List.cons_append,List.count_cons,List.count_append,beq_self_eq_true,if_true]at *;omega
  have Hi:∀ y∈g,y ∉ m:=λy f F=>by have:=H y;have:=List.count_pos_iff.2 f;have:=List.count_pos_iff.2 F;simp only[List.cons_append,List.count_cons,List.count_append]at *;omega
  have JB:g0 b=none:=bq h0 (B b (w b Z));have JC:∀ y∈g,g0 y=none:=λy d=>bq h0 (B y (w y (by simp[d])));have P4:∀ y∈m,g0 y=none:=λy d=>bq h0 (B y (w y (by simp[d])));have done:∀(e:Heap) (t:List Value) (z:dH) (q:List Nat),e b=some (.cells (pre++t++post).toArray N (0,0))->t.length=2->lI e t z q->cD G e g->Ag z->(∀ y∈q,g0 y=none)->yw g0 e (.slice (some ⟨b,0,none⟩) a.length V):=λe t z q f F h3 h4 h5 W=>by
   obtain⟨B2,o2,c2⟩:=ju e t z q f F h3 h4;refine⟨_,_,_,_,rfl,jE o2 (λy d=>?_) (λP hz=>?_) (by simp;omega)⟩
   ·have j:=List.count_pos_iff.2 d;have o:y∈b::g++q:=by
     refine List.count_pos_iff.1 ?_;rw[<-c2 y];exact j
    simp only[List.cons_append,List.mem_cons,List.mem_append]at o;rcases o with rfl|o|o
    ·exact JB
    ·exact JC y o
    exact W y o
   rcases List.mem_append.1 hz with j|j
   ·exact ok.bd P (List.mem_of_mem_take j)
   rcases List.mem_cons.1 j with rfl|j
   ·exact h5
   exact ok.bd P (List.mem_of_mem_drop j)
  have H9:=ok.bd _ (List.getElem_mem hx);have H6:Q b=none:=B b (w b Z);refine jg [.int .i64 1,.int .i64 1,.int .i64 1] Y rfl (λbf u IA nbf l6 r6 e6=>?_);conv=>whnf
  have AK:=l6 _ _ C;have nbb:b≠bf:=by rintro rfl;rw[IA]at C;cases C
  refine ay ?_;conv=>whnf
  refine ptr ?_;conv=>whnf
  refine gS r6.free AK (by simp;omega) (gW (i:=1) (by simp only;omega) Z) ?_;conv=>whnf
  have Kn:dI u (.slice (some ⟨bf,0,none⟩) 3 3) [1,1,1] [bf]:=⟨by simp[bP],.inr ⟨bf,3,[],_,rfl,Z,e6,by simp[bP],rfl⟩⟩
  refine⟨_,_,rfl,Heap.aR (Heap.le_trans l1 l6) H6,?_,O,O,done _ [.int .i64 a[x.toNat].bO,.slice (some ⟨bf,0,none⟩) 3 3] ⟨a[x.toNat].bO,[1,1,1]⟩ [bf] (cB _ _ _) rfl ⟨_,rfl,Kn.aJ (iE (by simpa using nbb))⟩ (λc hc ae ho=>iE KR c hc ae (l6 _ _ ho)) ⟨H9.1,Z,λN ht=>by simp at ht;subst ht;unfold cH;omega⟩ (λy d=>by rw[List.mem_singleton.1 d];exact bq (Heap.le_trans h0 l1) IA)⟩;have pV:I≠b:=λs=>by have:=r6.free;rw[s,AK]at this;cases this
  simp[Heap.set,pV,r6.free]
 skip
 have CZ:a=a.take x.toNat++a[x.toNat]::a.drop (x.toNat+1):=by rw[<-List.drop_eq_getElem_cons hx,List.take_append_drop]
 have Jz:dR lI 2 G (.slice cp a.length V) (a.take x.toNat++a[x.toNat]::a.drop (x.toNat+1)) T:=by rw[<-CZ];exact oc
 have E:=Jz.at oY;obtain⟨b,c,xr,pre,post,N,g,m,s,KQ,C,wB,LS,X,S,ju⟩:=E;simp only[Value.slice.injEq]at s;obtain⟨hq,_,yx⟩:=s;subst hq yx;obtain⟨af,rfl,L⟩:=X;have E:=L.form;obtain⟨K,J,rfl,JA⟩:=E;have DI:(a[x.toNat].fields.map bP).length=a[x.toNat].fields.length:=by simp
 rw[DI]at C L JA;have zX:pre.length=x.toNat*2:=by rw[wB,List.length_take,Nat.min_eq_left O]
 have w:∀ y,y∈b::g++m->y∈T:=λy d=>by
  have f:=List.count_pos_iff.2 d;refine List.count_pos_iff.1 ?_;rw[S y];exact f
 have H:Nd (b::g++m):=KP.perm λaa=>(S aa).symm;have KR:b ∉ g:=λD=>by have:=H b;have:=List.count_pos_iff.2 D;simp only[List.cons_append,List.count_cons,List.count_append,beq_self_eq_true,if_true]at *;omega
 have KS:b ∉ m:=λD=>by have:=H b;have:=List.count_pos_iff.2 D;simp only[List.cons_append,List.count_cons,List.count_append,beq_self_eq_true,if_true]at *;omega
 have Hi:∀ y∈g,y ∉ m:=λy f F=>by have:=H y;have:=List.count_pos_iff.2 f;have:=List.count_pos_iff.2 F;simp only[List.cons_append,List.count_cons,List.count_append]at *;omega
 have JB:g0 b=none:=bq h0 (B b (w b Z));have JC:∀ y∈g,g0 y=none:=λy d=>bq h0 (B y (w y (by simp[d])));have P4:∀ y∈m,g0 y=none:=λy d=>bq h0 (B y (w y (by simp[d])));have done:∀(e:Heap) (t:List Value) (z:dH) (q:List Nat),e b=some (.cells (pre++t++post).toArray N (0,0))->t.length=2->lI e t z q->cD G e g->Ag z->(∀ y∈q,g0 y=none)->yw g0 e (.slice (some ⟨b,0,none⟩) a.length V):=λe t z q f F h3 h4 h5 W=>by
  obtain⟨B2,o2,c2⟩:=ju e t z q f F h3 h4;refine⟨_,_,_,_,rfl,jE o2 (λy d=>?_) (λP hz=>?_) (by simp;omega)⟩
  ·have j:=List.count_pos_iff.2 d;have o:y∈b::g++q:=by
    refine List.count_pos_iff.1 ?_;rw[<-c2 y];exact j
   simp only[List.cons_append,List.mem_cons,List.mem_append]at o;rcases o with rfl|o|o
   ·exact JB
   ·exact JC y o
   exact W y o
  rcases List.mem_append.1 hz with j|j
  ·exact ok.bd P (List.mem_of_mem_take j)
  rcases List.mem_cons.1 j with rfl|j
  ·exact h5
  exact ok.bd P (List.mem_of_mem_drop j)
 have H9:=ok.bd _ (List.getElem_mem hx);have H6:Q b=none:=B b (w b Z);refine ay ?_;conv=>whnf
 refine ptr ?_;conv=>whnf
 refine gS Y.free C (by simp;omega) (gW (i:=1) (by simp only;omega) Z) ?_;conv=>whnf
 refine⟨_,_,rfl,Heap.aR l1 H6,?_,O,O,done _ [.int .i64 a[x.toNat].bO,.slice none 0 0] ⟨a[x.toNat].bO,[]⟩ [] (cB _ _ _) rfl ⟨_,rfl,Z,.inl ⟨rfl,rfl,rfl⟩⟩ (iE KR) ⟨H9.1,Z,Z⟩ Z⟩;have pV:I≠b:=λs=>by have:=Y.free;rw[s,C]at this;cases this
 simp[Heap.set,pV,Y.free]
theorem wW {u:aS} {m:cu} {x:dc} (h:ej u m x):∃ p q,oS x.kind=some (p,q)/\(1<=x.kind/\x.kind<=24)/\br u m x.a p x.a/\br u m x.a q x.b/\(p=4↔8<=x.kind/\x.kind<=11)/\(q=0\/q=8\/q=9)/\(q=0\/p=5)/\(0<=p/\p<=7):=by
 obtain⟨p,q,a,f,g⟩:=h;refine⟨p,q,a,?_⟩;rcases Bg x.kind with ⟨_,h⟩|⟨s,o,b,i,d,_⟩
 ·rw[h]at a;cases a
 rw[a]at d;simp only[Option.some.injEq,Prod.mk.injEq]at d;obtain⟨rfl,rfl⟩:=d;have j:=om _ _ i;simp only[ir,dZ,List.mem_cons,List.not_mem_nil,or_false,Prod.mk.injEq,Value.agg.injEq,Array.mk.injEq,List.cons.injEq,Value.int.injEq,true_and,and_true]at j;refine(λe:(1<=x.kind/\x.kind<=24)/\(p=4↔8<=x.kind/\x.kind<=11)/\(q=0\/q=8\/q=9)/\(q=0\/p=5)/\(0<=p/\p<=7)=>⟨e.1,f,g,e.2⟩) ?_;omega
theorem Ah {u:aS} {m:cu} {a d n:Int} (h:br u m a d n) (t:d=8->0<=a/\a < u.aq.length) (ok:cn u.aq) (x:u.methods.length<=100) (w:m.locals<=1000) (v:m.code.length<=1000) : -1000<=n/\n<=1000:=by
 unfold br at h;have:=ok.2.1;by_cases f:d=1
 ·rw[if_pos f]at h;have:=eA.1 h;omega
 rw[if_neg f]at h;by_cases g:d=2
 ·rw[if_pos g]at h;omega
 rw[if_neg g]at h;by_cases i:d=3
 ·rw[if_pos i]at h;omega
 rw[if_neg i]at h;by_cases j:d=4
 ·rw[if_pos j]at h;omega
 rw[if_neg j]at h;by_cases o:d=5
 ·rw[if_pos o]at h;omega
 rw[if_neg o]at h;by_cases p:d=6
 ·rw[if_pos p]at h;omega
 rw[if_neg p]at h;by_cases q:d=7
 ·rw[if_pos q]at h;omega
 rw[if_neg q]at h;by_cases e:d=8
 ·rw[if_pos e]at h;have:=ec ok (t e).2;omega
 rw[if_neg e]at h;by_cases s:d=9
 ·rw[if_pos s]at h;omega
 rw[if_neg s]at h;omega
theorem rC {u:aS} {m:cu} {x:dc} (h:ej u m x) (ok:cn u.aq) (f:u.methods.length<=100) (e:m.locals<=1000) (d:m.code.length<=1000):(1<=x.kind/\x.kind<=24)/\(-1000<=x.a/\x.a<=1000)/\-1000<=x.b/\x.b<=1000:=by
 obtain⟨p,t,_,j,a,i,_,_,q,s⟩:=wW h;refine⟨j,Ah a (λg=>O) ok f e d,Ah i (λg=>?_) ok f e d⟩;have o:p=5:=by omega
 subst o;exact a
theorem vn {u:aS} {m e:cu} {a d n:Int} (h:br u m a d n) (g:d≠4) (f:e.locals=m.locals):br u e a d n:=by
 unfold br at h ⊢;rw[if_neg g]at h ⊢;rw[f];exact h
theorem Ef {u:aS} {m d:cu} {x:dc} (h:ej u m x) (j:¬(8<=x.kind/\x.kind<=11)) (a:d.locals=m.locals):ej u d x:=by
 obtain⟨p,q,o,_,f,g,i,s,_⟩:=wW h;exact⟨p,q,o,vn f (λe=>j (i.1 e)) a,vn g (λe=>O) a⟩
theorem Eg {u:aS} {m:cu} {x:dc} (g:8<=x.kind/\x.kind<=11) (a:0<=x.a/\x.a < m.code.length) (d:x.b=0):ej u m x:=by
 have f:x.kind=8\/x.kind=9\/x.kind=10\/x.kind=11:=by omega
 refine⟨4,0,?_,a,?_⟩
 ·rcases f with e|e|e|e<;>(rw[e];rfl)
 unfold br;simp[d]
def Good (u:aS) (m:cu) (L:Int) (x:dc):Prop:=(ej u {m with code:=[x]} x/\¬(8<=x.kind/\x.kind<=11)/\x.kind≠22)\/((8<=x.kind/\x.kind<=11)/\(0<=x.a/\x.a < L)/\x.b=0)
theorem Good.ins {u:aS} {m d:cu} {L:Int} {x:dc} (h:Good u m L x) (g:d.locals=m.locals) (i:(d.code.length:Int)=L):ej u d x:=by
 rcases h with ⟨a,e,_⟩|⟨a,e,f⟩
 ·exact Ef a e g
 exact Eg a O f
theorem Good.k {u:aS} {m:cu} {L:Int} {x:dc} (h:Good u m L x):x.kind≠22:=by
 rcases h with ⟨_,_,h⟩|⟨h,_⟩
 ·exact h
 omega
theorem Df {u:aS} {m:cu} {x:dc} (h:rA u m x) (ok:cn u.aq) (e:u.methods.length<=100) (d:m.locals<=1000):(1<=x.kind/\x.kind<=24)/\(-1000<=x.a/\x.a<=1000)/\-1000<=x.b/\x.b<=1000:=by
 rcases h with ⟨a,_⟩|⟨a,f,g⟩
 ·exact rC a ok e d Z
 omega
def tE (x:kg):List Value:=[.int .i64 x.lo,.int .i64 x.hi,.int .i64 x.to,.int .i64 x.cls]
structure ji (gB g:Heap) (code:List dc) (pc:Option Addr) (cc:Nat) (Bc:List Nat) (el:List Int) (pe:Option Addr) (ce:Nat) (Be:List Nat) (ks:List kg) (kv:Value) (Bk:List Nat):Prop where
 le:gB.le g
 oc:Ab g (.slice pc code.length cc) code Bc
 oe:dI g (.slice pe el.length ce) el Be
 ok:bW 4 g kv (ks.map tE) Bk
 kf:(kv=.slice none 0 0/\ks=[])\/∃ bk,kv=.slice (some ⟨bk,0,none⟩) 1 1/\ks.length=1
 nd:Nd (Bc++(Be++Bk))
 fr:∀ b∈Bc++(Be++Bk),gB b=none
section
variable {gB g g':Heap} {code:List dc} {pc:Option Addr} {cc:Nat} {Bc:List Nat} {el:List Int} {pe:Option Addr} {ce:Nat} {Be:List Nat} {ks:List kg} {kv:Value} {Bk:List Nat}
theorem ji.in (h:ji gB g code pc cc Bc el pe ce Be ks kv Bk):∀ b∈Bc++(Be++Bk),∃ o,g b=some o :=
 λb a=>(List.mem_append.1 a).elim (h.oc.in b) λa=>(List.mem_append.1 a).elim (h.oe.in b) (h.ok.in b)
theorem ji.aJ (h:ji gB g code pc cc Bc el pe ce Be ks kv Bk) (a:g.le g'):ji gB g' code pc cc Bc el pe ce Be ks kv Bk :=
 ⟨Heap.le_trans h.le a,h.oc.aJ (cD.of_le a _),h.oe.aJ (cD.of_le a _),h.ok.aJ (cD.of_le a _),h.kf,h.nd,h.fr⟩
theorem ji.of {u:aS} {m:cu} (h:iX gB g u m code pc cc Bc el pe ce Be):ji gB g code pc cc Bc el pe ce Be [] (.slice none 0 0) [] :=
 ⟨h.le,h.oc,h.oe,⟨Z,.inl ⟨rfl,rfl,rfl⟩⟩,.inl ⟨rfl,rfl⟩,by simpa using h.nd,by simpa using h.fr⟩
theorem ji.app {d:Nat} {vb:Value} {M q:Int} {n v bytes:Nat} {zero vs:List Value} {ty:TypeId} {K:Value->Heap->Prop} (h:ji gB g code pc cc Bc el pe ce Be ks kv Bk) (N:bz gB d vb M) (r:bz g d vb q) (xs:List dc) (p:n=code.length) (f:v=xs.length) (D:vs=(xs.map cJ).flatten) (x:dD vs=true) (Q:code.length<=1000) (S:xs.length<=10) (F:zero.length=3) (a:bytes<=1000)
  (z:∀ j e g' B',ji gB g' (code++xs) j e B' el pe ce Be ks kv Bk->bz g' d vb q->K (.slice j (code++xs).length e) (cN g' d vb q)):App bytes 3 zero ty (cN g d vb q) pc n cc v vs K:=by
 subst p D f;have y:=h.in;have f:((code.map cJ).length+(xs.map cJ).length)*bytes<=1010*1000:=Nat.mul_le_mul (by simp;omega) a;refine Go.Proofs.kK N r (ys:=xs.map cJ) h.oc (λb a=>h.fr b (by simp[a])) h.le rfl Z (λW E=>by obtain⟨V,_,rfl⟩:=List.mem_map.1 E;rfl) x F O (by simp;omega) ?_;intro P g' B' G H I J L u;have i:Ab g' P (code++xs) B':=by unfold Ab;rw[List.map_append];exact I
 obtain⟨j,e,rfl,_⟩:=bW.form i;have B:((code++xs).map cJ).length=(code++xs).length:=by simp
 rw[B]at i ⊢;have s:Ev g g' Bc B':=⟨λb a C=>L b C a,u⟩
 refine z j e g' B' ⟨G,i,h.oe.aJ (s.aJ λb a o=>sE h.nd b o (by simp[a])),h.ok.aJ (s.aJ λb a o=>sE h.nd b o (by simp[a])),h.kf,?_,λb a=>?_⟩ H
 ·have:=Nd.swap (A:=Be++Bk) (X:=Bc) (X':=B') (h.nd.perm λw=>by simp only[List.count_append];omega) i.nd (λb a=>(u b a).imp id λp f=>by
   obtain⟨T,t⟩:=y b (by simp at f ⊢;grind);rw[p]at t;cases t)
  exact this.perm λw=>by simp only[List.count_append];omega
 rcases List.mem_append.1 a with m|m
 ·exact J b m
 exact h.fr b (by simp at m ⊢;grind)
theorem ji.cat {d:Nat} {vb:Value} {q:Int} {cs:List Value} {t:TypeId} {K:Nat->Heap->Prop} (h:ji gB g code pc cc Bc el pe ce Be [] (.slice none 0 0) []) (r:bz g d vb q) (x:kg) (a:cs=tE x)
  (s:∀ b g',ji gB g' code pc cc Bc el pe ce Be [x] (.slice (some ⟨b,0,none⟩) 1 1) [b]->bz g' d vb q->K b (cN g' d vb q)):EF (cN g d vb q) cs t K:=by
 refine jg (tE x) r a (λb g' e v l u m=>?_);have p:=h.in;have h':=h.aJ l;refine s b g' ⟨h'.le,h'.oc,h'.oe,⟨by simp[tE],.inr ⟨b,1,[],t,Z,Z,by simpa using m,by simp[tE],rfl⟩⟩,.inr ⟨b,rfl,rfl⟩,?_,λc a=>?_⟩ u
 ·have o:Nd (Bc++Be):=by have:=h.nd;simpa using this
  have:=Nd.two o (B:=[b]) (λj=>by simp only[List.count_cons,List.count_nil];split<;>omega) (λc a f=>by
   rw[List.mem_singleton.1 a]at f;obtain⟨w,i⟩:=p b (by simpa using f);rw[e]at i;cases i)
  exact this.perm λj=>by simp only[List.count_append];omega
 simp only[List.mem_append,List.mem_singleton]at a;rcases a with a|a|rfl
 ·exact h.fr c (by simp[a])
 ·exact h.fr c (by simp[a])
 exact bq h.le e
theorem ji.at (h:ji gB g code pc cc Bc el pe ce Be ks kv Bk) {i:Nat} (j:i < code.length):∃ b,pc=some ⟨b,0,none⟩/\dQ g b (0+i*3) 3=some (cJ code[i]) /\
  ∃ pre post t,g b=some (.cells (pre++cJ code[i]++post).toArray t (0,0))/\pre.length=i*3/\∀ y g',g'=g.set b (.cells (pre++cJ y++post).toArray t (0,0))->ji gB g' (code.set i y) pc cc Bc el pe ce Be ks kv Bk:=by
 have w:code.map cJ=(code.take i).map cJ++cJ code[i]::(code.drop (i+1)).map cJ:=by
  rw[<-List.map_cons,<-List.map_append,<-List.drop_eq_getElem_cons j,List.take_append_drop]
 have d:=h.oc;unfold Ab at d;rw[w]at d;obtain⟨b,c,pre,post,t,e,f,u,_,p,z⟩:=d.at;simp only[Value.slice.injEq]at e;obtain⟨rfl,_,rfl⟩:=e;subst p;have a:pre.length=i*3:=by rw[u,List.length_map,List.length_take,Nat.min_eq_left O]
 refine⟨b,rfl,?_,pre,post,t,f,a,λy g' e=>?_⟩
 ·rw[bK f 3 (0+i*3) (by simp[a,cJ])];rw[List.append_assoc,Nat.zero_add,<-a,List.drop_left];rfl
 have o:g' b=some (.cells (pre++cJ y++post).toArray t (0,0)):=by rw[e];exact cB _ _ _
 have x:=z g' (cJ y) o rfl;have v:(code.set i y).map cJ=(code.take i).map cJ++cJ y::(code.drop (i+1)).map cJ:=by
  rw[List.set_eq_take_append_cons_drop,if_pos j];simp
 have m:cD g g' (Be++Bk):=λc q B s=>by
  have:c≠b:=λe=>sE h.nd b Z (by rw[<-e];exact q);rw[e];simp only[Heap.set,this,if_false];exact s
 refine⟨?_,?_,h.oe.aJ m.l,h.ok.aJ m.r,h.kf,h.nd,h.fr⟩
 ·rw[e];exact Heap.aR h.le (h.fr b Z)
 unfold Ab;rw[v,List.length_set];exact x
end
end Go.Proofs
