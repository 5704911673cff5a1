/- Part 8 of the lemmas on which the law rests: what functions of the program and of the reference do; no conditions but those that each lemma states. -/
import Derived.Test.YtclenamodemnpaaGreatMg7
set_option linter.unusedSimpArgs false
set_option linter.unusedVariables false
namespace Go.Proofs
open Go.Vc Go.Proofs.Tryz
set_option maxRecDepth 100000
set_option maxHeartbeats 4000000
structure Grown (h0 h:Heap) (b c n:Nat) (k:Int) (A:List dH) (h':Heap) (A':List dH) (ch:Bool):Prop where
 hle:(aW h b).le (aW h' b)
 all:iB h0 h' b c A'
 val:qN n k A'
 len:A'.length=A.length
 mu:mu A'<=mu A
 less:ch=true->Go.Proofs.mu A' < Go.Proofs.mu A
theorem Grown.start {h0 h:Heap} {b c n:Nat} {k:Int} {A:List dH} (a:iB h0 h b c A) (hA:qN n k A):Grown h0 h b c n k A h A false:=⟨Heap.le_refl _,a,hA,rfl,Nat.le_refl _,λhx=>by cases hx⟩
theorem Grown.trans {h0 h h' zw:Heap} {b c n:Nat} {k:Int} {A A' A'':List dH} {x y:Bool} (g:Grown h0 h b c n k A h' A' x) (g':Grown h0 h' b c n k A' zw A'' y):Grown h0 h b c n k A zw A'' (x||y) :=
 ⟨Heap.le_trans g.hle g'.hle,g'.all,g'.val,by rw[g'.len,g.len],Nat.le_trans g'.mu g.mu,λhx=>by
  have h1:=g.mu;have h2:=g'.mu;rcases(by simpa using hx:x=true\/y=true)with hx|hx
  ·have:=g.less hx;omega
  ·have:=g'.less hx;omega⟩
theorem Grown.more {h0 h h' zw:Heap} {b c n:Nat} {k:Int} {A A':List dH} {x:Bool} (g:Grown h0 h b c n k A h' A' x) (hl:h'.le zw):Grown h0 h b c n k A zw A' x :=
 ⟨Heap.le_trans g.hle (bT b hl),g.all.aG hl,g.val,g.len,g.mu,g.less⟩
theorem qO (us:List Value) (u:aU) (k:Int) (h0 h1 h:Heap) (b c:Nat) (A0 A:List dH) (x:Bool) (at_:Int) (s:dH) (v:Value) (n:Nat) (hn:A.length=n) (hu:dL h0 us u) (ok:cj u.J) (hk:k<=3) (g:Grown h0 h1 b c u.J.length k A0 h A x) (m4:0<=at_/\at_ < A.length) (W4:A.length<=1000) (hs:uJ u.J.length k s) (ht:s.told=true) (hr:zE (aW h b) v s) :
  bI prog 214 [.agg ⟨us⟩,.slice (some ⟨b,0,none⟩) n c,.int .i64 at_,v] h
   λv h'=>∃ ch A',v=.bool ch/\Grown h0 h1 b c u.J.length k A0 h' A' (x||ch)/\(aW h b).le (aW h' b):=by
 subst hn;obtain⟨p1,c1,p2,c2,rfl,hI⟩:=hr;refine bI.mono (Fl us u k h0 h b c A at_ s p1 p2 c1 c2 hu ok hk g.all g.val m4 W4 hs ht hI) λv h' hh=>?_;obtain⟨hl,ch,A',rfl,a',hv,e1,e2,e3⟩:=hh;exact⟨ch,A',rfl,g.trans ⟨hl,a',hv,e1,e2,e3⟩,hl⟩
theorem zE.le {h h':Heap} (hl:h.le h') {v:Value} {s:dH} (hr:zE h v s):zE h' v s:=by
 obtain⟨p1,c1,p2,c2,e,hI⟩:=hr;exact⟨p1,c1,p2,c2,e,hI.le hl⟩
theorem Dx (us ms:List Value) (u:aU) (m:cB) (h0 h:Heap) (b c:Nat) (A:List dH) (at_:Int) (hu:dL h0 us u) (hm:ee h0 ms m) (hV:HI u) (hM:Q9 u m) (a:iB h0 h b c A) (hA:qN u.J.length m.locals A) (W4:A.length=m.code.length) (m4:0<=at_/\at_ < A.length) :
  bI prog 193 [.agg ⟨us⟩,.agg ⟨ms⟩,.slice (some ⟨b,0,none⟩) A.length c,.int .i64 at_] h
   λv h'=>∃ ch A',v=.bool ch/\Grown h0 h b c u.J.length m.locals A h' A' ch:=by
 have iJ:=hu;have Ii:=hm;have ok:=hV.1;have zm:=ok.2.1;have sG:=hM.head.2.2.2.2.1;have lq:=hM.len.2;obtain⟨p,cc,q,d,rfl,hcs,fM,jN,hl2⟩:=hu.form;obtain⟨p1,c1,p2,c2,p3,c3,p4,c4,rfl,k1,k2,k3,k4,k5,k6,k7,k8,d1,d2,d3,d4⟩:=hm.form;have hi:at_.toNat < A.length:=by omega
 have dy:=List.getElem_mem hi;obtain⟨lp,lc,kp,kc,e1,e2,e3,_⟩:=a.at hi;have YJ:=hA _ dy;generalize hs:A[at_.toNat]=s at e1 e2 e3 YJ;clear hs;have g0:=Grown.start a hA;have Dy:at_.toNat < m.code.length:=by omega
 obtain⟨bi,oi,vi,rO,f1,f2,f3⟩:=k6.get Dy;have lT:m.code.getD at_.toNat dW=m.code[at_.toNat]:=by simp[Dy]
 have kK:=hM.code _ (List.getElem_mem Dy);have BE:∀ hh:Heap,h0.le hh->(hs:uJ u.J.length m.locals s)->si hh s lp kp lc kc->_:=λhh hl hs hI=>vU _ _ u m at_ s lp kp lc kc hh (iJ.le hl) (Ii.le hl) hV hI hs sG (by omega) (by rw[lT];exact kK) hM.head.2.2.1;rw[lT]at BE;have qP:=λhj=>kK.jump hj;have Xg:=λhs:uJ u.J.length m.locals s=>uN (m:=m) hV hs kK;subst f2;generalize m.code[at_.toNat]=x at f1 kK BE qP Xg;obtain⟨ik,ia,ib⟩:=x;simp only at f1 qP;refine bS au func193 Xf Rf rfl ?_;conv=>whnf
 repeat' ((first|refine ld e2 ?_|refine aq ?_|refine aj ?_|refine ptr ?_)<;>conv=>whnf)
 apply bY<;>intro g;all_goals conv=>whnf
 ·exact⟨false,A,rfl,g0⟩
 have hs:=YJ g;have abV:=BE (aW h b) a.hle hs e3;repeat' ((first|refine dK e1 ?_|refine aq ?_|refine aj ?_|refine ptr ?_)<;>conv=>whnf)
 refine fm [2,3,4,5,9,10,11] [4,5,10] (λy:Nat × Heap × List dH × Bool=>y.1<=m.catches.length/\Grown h0 h b c u.J.length m.locals A y.2.1 y.2.2.1 y.2.2.2) (λy=>m.catches.length-y.1)
  (λy=>([.v (.slice (some ⟨b,0,none⟩) A.length c),.v (.int .i64 at_),.l 4 0,.l 5 0,.v (.bool y.2.2.2),.l 10 0,.v (.int .i64 y.1)],
   [some [.slice p u.J.length cc,.slice q u.methods.length d],some [.int .i64 m.cls,.int .i64 m.eL,.slice p1 m.args.length c1,.int .i64 m.out,.int .i64 m.locals,.slice p2 m.code.length c2,.slice p3 m.aL.length c3,.slice p4 m.catches.length c4],some [.bool s.told,.slice lp s.locals.length lc,.slice kp s.stack.length kc]],y.2.1))
  (0,h,A,false) ⟨by omega,g0⟩ rfl ?_
 rintro⟨i,h5,A5,x5⟩ ⟨Xh,g5⟩;simp only at Xh g5 ⊢;have LH:=g5.len;conv=>whnf
 apply ax<;>intro g2;all_goals conv=>whnf
 ·have cG:i < m.catches.length:=by omega
  obtain⟨bb,off,vs,KM,w1,w2,w3⟩:=k8.get cG;subst w2;have E6:=hM.cat.2 _ (List.getElem_mem cG);generalize m.catches[i]=ct at w1 w3 E6;obtain⟨lo,wg,to,cls⟩:=ct;obtain⟨⟨Xi,Xj,Rg,Rh⟩,⟨Xk,Xl⟩,⟨OW,OX⟩,_⟩:=E6;simp only at w1 Xi Xj Rg Rh Xk Xl OW OX;have aa6:h0.le h5:=g5.all.le;have KN:=iI aa6 _ _ _ w1;repeat' ((first|refine aO KM ?_|refine dK KN ?_|refine aq ?_|refine aj ?_|refine ptr ?_)<;>conv=>whnf)
  have h6:=λhh=>er at_ lo (wg-1) hh;have Ou:=vV hs ⟨OW,OX⟩;obtain⟨o,mS⟩:=g5.all.in;have Fm:=qL lo wg to cls s lp kp lc kc (aW h5 b) (e3.le g5.hle) (by have:=hs.loc;omega) (by omega);generalize decide (lo<=at_/\at_<=wg-1)=Xm at h6;cases Xm
  ·repeat' ((first|exact trivial|apply And.intro|refine aj ?_|refine aT (h6 _) ?_)<;>conv=>whnf)
   all_goals exact dm (i+1,h5,A5,x5) ⟨by simp only;omega,g5⟩ (by simp only;omega) rfl
  ·repeat' ((first|exact trivial|apply And.intro|refine aj ?_|refine aT (h6 _) ?_|refine Gq mS Fm (λv h7 l7 hr=>?_))<;>conv=>whnf)
   all_goals
    have g7:=g5.more l7;refine aD (qO _ u m.locals h0 h h7 b c A A5 x5 to (eJ cls s) _ _ LH iJ ok sG g7 (by omega) (by omega) Ou rfl hr) (λv h8 hh=>?_);refine hh.elim λch hh=>hh.elim λA8 hh=>?_;have hv:=hh.1;subst hv;have g8:=hh.2.1;cases ch
    ·conv=>whnf
     refine aj ?_;conv=>whnf
     exact dm (i+1,h8,A8,x5) ⟨by simp only;omega,by simpa using g8⟩ (by simp only;omega) rfl
    ·conv=>whnf
     refine aj ?_;conv=>whnf
     exact dm (i+1,h8,A8,true) ⟨by simp only;omega,by simpa using g8⟩ (by simp only;omega) rfl
 ·obtain⟨o,mS⟩:=g5.all.in;have dZ:=BE (aW h5 b) g5.all.hle hs (e3.le g5.hle);have KO:=Xg hs;generalize stepT u m ⟨ik,ia,ib⟩ s=res at dZ KO;refine kO mS dZ (λv h6 l6 hr=>?_);have g6:=g5.more l6;have Nq:=iI g6.all.le _ _ _ f1;have KP:=λhh=>jY ik ia ib hh;have Hu:=λhh=>og ik ia ib hh;cases res with
  | none =>
   refine hr.elim λa1 hr=>hr.elim λq1 hr=>hr.elim λn1 hr=>hr.elim λe1 hr=>hr.elim λq2 hr=>hr.elim λn2 hr=>hr.elim λe2 hv=>?_;subst hv;conv=>whnf
   exact⟨x5,A5,rfl,g6⟩
  | some s6 =>
   have hs6:=KO s6 rfl;have ht6:=hs6.2.trans g;have WY:=g6.len;refine hr.elim λq1 hr=>hr.elim λe1 hr=>hr.elim λq2 hr=>hr.elim λe2 hr=>?_;have hv:=hr.1;subst hv;have L4:=hr.2;have YK:zE (aW h6 b) (.agg #[.bool s6.told,.slice q1 s6.locals.length e1,.slice q2 s6.stack.length e2]) s6:=⟨_,_,_,_,rfl,L4⟩
   generalize dJ ⟨ik,ia,ib⟩=j at KP qP;generalize kW ⟨ik,ia,ib⟩=en at Hu;have last:∀(h7:Heap) (A7:List dH) (x7:Bool),Grown h0 h b c u.J.length m.locals A h7 A7 x7->(aW h6 b).le (aW h7 b)->(at_+1 < m.code.length->bI prog 214 [.agg ⟨[.slice p u.J.length cc,.slice q u.methods.length d]⟩,.slice (some ⟨b,0,none⟩) A.length c,.int .i64 (at_+1),.agg #[.bool s6.told,.slice q1 s6.locals.length e1,.slice q2 s6.stack.length e2]] h7 λv h'=>∃ ch A',v=.bool ch/\Grown h0 h b c u.J.length m.locals A h' A' (x7||ch)/\(aW h7 b).le (aW h' b))/\eG h7 bi (oi+at_.toNat*3) 3=some [.int .i64 ik,.int .i64 ia,.int .i64 ib]:=λh7 A7 x7 g7 l7=>⟨λiS=>by
    have hl7:=g7.len;exact qO _ u m.locals h0 h h7 b c A A7 x7 (at_+1) s6 _ _ hl7 iJ ok sG g7 (by omega) (by omega) hs6.1 ht6 (YK.le l7),iI g7.all.le _ _ _ f1⟩
   have r1:=aK Nq (i:=1) rfl;conv=>whnf
   cases j
   ·repeat' ((first|exact trivial|apply And.intro|refine aq ?_|refine aO rO ?_|refine dK Nq ?_|refine aT (KP _) ?_)<;>conv=>whnf)
    all_goals
     have KQ:=last h6 A5 x5 g6 (Heap.le_refl _);cases en
     ·conv=>whnf
      repeat' ((first|refine aO rO ?_|refine dK KQ.2 ?_|refine ay (Hu _) ?_|refine aq ?_|refine aj ?_|refine ptr ?_)<;>conv=>whnf)
      apply ax<;>intro g9;all_goals conv=>whnf
      ·repeat' ((first|refine aq ?_|refine aj ?_|refine ptr ?_)<;>conv=>whnf)
       refine aD (KQ.1 g9) (λv h9 hh=>?_);refine hh.elim λXn hh=>hh.elim λA9 hh=>?_;have hv:=hh.1;subst hv;have Cc:=hh.2.1;cases Xn
       ·conv=>whnf
        exact⟨x5,A9,rfl,by simpa using Cc⟩
       ·conv=>whnf
        exact⟨true,A9,rfl,by simpa using Cc⟩
      ·exact⟨x5,A5,rfl,g6⟩
     ·conv=>whnf
      repeat' ((first|refine aO rO ?_|refine dK KQ.2 ?_|refine ay (Hu _) ?_|refine aq ?_|refine aj ?_|refine ptr ?_)<;>conv=>whnf)
      exact⟨x5,A5,rfl,g6⟩
   ·have hj:=qP rfl;repeat' ((first|exact trivial|apply And.intro|refine aq ?_|refine aO rO ?_|refine dK Nq ?_|refine ld r1 ?_|refine aT (KP _) ?_)<;>conv=>whnf)
    all_goals
     refine aD (qO _ u m.locals h0 h h6 b c A A5 x5 ia s6 _ _ WY iJ ok sG g6 (by omega) (by omega) hs6.1 ht6 YK) (λv h7 hh=>?_);refine hh.elim λch hh=>hh.elim λA7 hh=>?_;have hv:=hh.1;subst hv;have g7:=hh.2.1;have l7:=hh.2.2;cases ch
     ·have g8:Grown h0 h b c u.J.length m.locals A h7 A7 x5:=by simpa using g7
      conv=>whnf
      have KQ:=last h7 A7 x5 g8 l7;cases en
      ·conv=>whnf
       repeat' ((first|refine aO rO ?_|refine dK KQ.2 ?_|refine ay (Hu _) ?_|refine aq ?_|refine aj ?_|refine ptr ?_)<;>conv=>whnf)
       apply ax<;>intro g9;all_goals conv=>whnf
       ·repeat' ((first|refine aq ?_|refine aj ?_|refine ptr ?_)<;>conv=>whnf)
        refine aD (KQ.1 g9) (λv h9 hh=>?_);refine hh.elim λXn hh=>hh.elim λA9 hh=>?_;have hv:=hh.1;subst hv;have Cc:=hh.2.1;cases Xn
        ·conv=>whnf
         exact⟨x5,A9,rfl,by simpa using Cc⟩
        ·conv=>whnf
         exact⟨true,A9,rfl,by simpa using Cc⟩
       ·exact⟨x5,A7,rfl,g8⟩
      ·conv=>whnf
       repeat' ((first|refine aO rO ?_|refine dK KQ.2 ?_|refine ay (Hu _) ?_|refine aq ?_|refine aj ?_|refine ptr ?_)<;>conv=>whnf)
       exact⟨x5,A7,rfl,g8⟩
     ·have g8:Grown h0 h b c u.J.length m.locals A h7 A7 true:=by simpa using g7
      conv=>whnf
      have KQ:=last h7 A7 true g8 l7;cases en
      ·conv=>whnf
       repeat' ((first|refine aO rO ?_|refine dK KQ.2 ?_|refine ay (Hu _) ?_|refine aq ?_|refine aj ?_|refine ptr ?_)<;>conv=>whnf)
       apply ax<;>intro g9;all_goals conv=>whnf
       ·repeat' ((first|refine aq ?_|refine aj ?_|refine ptr ?_)<;>conv=>whnf)
        refine aD (KQ.1 g9) (λv h9 hh=>?_);refine hh.elim λXn hh=>hh.elim λA9 hh=>?_;have hv:=hh.1;subst hv;have Cc:=hh.2.1;cases Xn
        ·conv=>whnf
         exact⟨true,A9,rfl,by simpa using Cc⟩
        ·conv=>whnf
         exact⟨true,A9,rfl,by simpa using Cc⟩
       ·exact⟨true,A7,rfl,g8⟩
      ·conv=>whnf
       repeat' ((first|refine aO rO ?_|refine dK KQ.2 ?_|refine ay (Hu _) ?_|refine aq ?_|refine aj ?_|refine ptr ?_)<;>conv=>whnf)
       exact⟨true,A7,rfl,g8⟩
def fQ (m:cB) (i:Int):dX:=m.code.getD i.toNat dW
def iV (m:cB) (i:Int):Bool:=(decide (0 < i)&&kW (fQ m (i-1)))||m.code.any (λx=>dJ x&&decide (x.a=i))||m.catches.any (λc=>decide (c.to=i))
theorem pI {α:Type} {l:List α} {d:α} {i:Nat} (h:i < l.length):l.getD i d=l[i]:=by simp[h]
theorem BF {α:Type} {l:List α} {p:α->Bool} {i:Nat} (hi:i < l.length) (h:p l[i]=true):l.any p=true:=List.any_eq_true.2 ⟨_,List.getElem_mem hi,h⟩
theorem any_none {α:Type} {l:List α} {p:α->Bool} (h:∀ j (hj:j < l.length),p l[j]=false):l.any p=false:=by
 rw[List.any_eq_false];intro x hx;obtain⟨j,hj,rfl⟩:=List.mem_iff_getElem.1 hx;rw[h j hj];simp
theorem Dz (ms:List Value) (m:cB) (at_:Int) (h:Heap) (hm:ee h ms m) (m4:0<=at_/\at_ < m.code.length) :
  Pure prog 194 [.agg ⟨ms⟩,.int .i64 at_] h (.bool (iV m at_)):=by
 obtain⟨p1,c1,p2,c2,p3,c3,p4,c4,rfl,k1,k2,k3,k4,k5,k6,k7,k8,d1,d2,d3,d4⟩:=hm.form;have yes:iV m at_=true->Value.bool true=.bool (iV m at_):=λe=>by rw[e]
 have no:iV m at_=false->Value.bool false=.bool (iV m at_):=λe=>by rw[e]
 have loops:(decide (0 < at_)&&kW (fQ m (at_-1)))=false->iV m at_=(m.code.any (λx=>dJ x&&decide (x.a=at_))||m.catches.any (λc=>decide (c.to=at_))):=λe=>by unfold iV;rw[e,Bool.false_or]
 have first:(decide (0 < at_)&&kW (fQ m (at_-1)))=true->iV m at_=true:=λe=>by unfold iV;rw[e,Bool.true_or,Bool.true_or]
 have Ri:∀ {i:Nat} (hi:i < m.code.length),∃ bi oi,p2=some ⟨bi,oi,none⟩/\eG h bi (oi+i*3) 3=some [.int .i64 m.code[i].kind,.int .i64 m.code[i].a,.int .i64 m.code[i].b]:=λhi=>by
  obtain⟨bi,oi,vi,rO,f1,f2,f3⟩:=k6.get hi;subst f2;exact⟨bi,oi,rO,f1⟩
 have Xo:∀ {i:Nat} (hi:i < m.catches.length),∃ bi oi,p4=some ⟨bi,oi,none⟩/\rd h bi (oi+i*4+2)=some (.int .i64 m.catches[i].to):=λhi=>by
  obtain⟨bi,oi,vi,rO,f1,f2,f3⟩:=k8.get hi;subst f2;exact⟨bi,oi,rO,aK f1 (i:=2) rfl⟩
 clear k5 k6 k7 k8;refine gN au func194 UG UH rfl ?_;conv=>whnf
 apply ax<;>intro g;all_goals conv=>whnf
 ·have hi:(at_-1).toNat < m.code.length:=by omega
  obtain⟨bi,oi,rO,f1⟩:=Ri hi;have he:=og m.code[(at_-1).toNat].kind m.code[(at_-1).toNat].a m.code[(at_-1).toNat].b h;have Ok:fQ m (at_-1)=m.code[(at_-1).toNat]:=pI hi;rw[Ok]at loops first;rw[decide_eq_true g,Bool.true_and]at loops first;change Pure _ _ _ _ (.bool (kW m.code[(at_-1).toNat]))at he
  generalize kW m.code[(at_-1).toNat]=en at he loops first;repeat' ((first|refine aO rO ?_|refine dK f1 ?_|refine ay he ?_|refine aq ?_|refine aj ?_|refine ptr ?_)<;>conv=>whnf)
  cases en
  ·replace loops:=loops rfl
   conv=>whnf
   refine fm [1,2,5] [2] (λi:Nat=>i<=m.code.length/\∀ j (hj:j < m.code.length),j < i->(dJ m.code[j]&&decide (m.code[j].a=at_))=false) (λi=>m.code.length-i)
    (λi=>([.v (.int .i64 at_),.l 2 0,.v (.int .i64 i)],[some [.int .i64 m.cls,.int .i64 m.eL,.slice p1 m.args.length c1,.int .i64 m.out,.int .i64 m.locals,.slice p2 m.code.length c2,.slice p3 m.aL.length c3,.slice p4 m.catches.length c4]],h)) 0 ⟨by omega,λ_ _ hx=>by omega⟩ rfl ?_
   rintro i ⟨hi,hg⟩;conv=>whnf
   apply ax<;>intro g2;all_goals conv=>whnf
   ·have cG:i < m.code.length:=by omega
    obtain⟨bi,oi,rO,f1⟩:=Ri cG;have r1:=aK f1 (i:=1) rfl;have hj:=jY m.code[i].kind m.code[i].a m.code[i].b h;change Pure _ _ _ _ (.bool (dJ m.code[i]))at hj
    have KR:dJ m.code[i]=true->m.code[i].a=at_->iV m at_=true:=λe1 e2=>by
     rw[loops,BF cG (by rw[e1,decide_eq_true e2];rfl),Bool.true_or]
    have next:(dJ m.code[i]&&decide (m.code[i].a=at_))=false->∀ j (hj:j < m.code.length),j < i+1->(dJ m.code[j]&&decide (m.code[j].a=at_))=false:=λe j hj jv=>by
     rcases Nat.lt_succ_iff_lt_or_eq.1 jv with gH|rfl
     ·exact hg j hj gH
     ·exact e
    generalize hjx:dJ m.code[i]=j at hj KR next;repeat' ((first|refine aO rO ?_|refine dK f1 ?_|refine ay hj ?_|refine aq ?_|refine aj ?_|refine ptr ?_)<;>conv=>whnf)
    cases j
    ·conv=>whnf
     refine aj ?_;conv=>whnf
     exact dm (i+1) ⟨by omega,next rfl⟩ (by omega) rfl
    ·conv=>whnf
     repeat' ((first|refine aO rO ?_|refine ld r1 ?_|refine aq ?_|refine aj ?_|refine ptr ?_)<;>conv=>whnf)
     apply ax<;>intro g4;all_goals conv=>whnf
     ·exact⟨yes (KR rfl g4),rfl⟩
     ·refine aj ?_;conv=>whnf
      exact dm (i+1) ⟨by omega,next (by rw[decide_eq_false g4];rfl)⟩ (by omega) rfl
   ·have Rj:=any_none (p:=λx=>dJ x&&decide (x.a=at_)) (l:=m.code) (λj hj=>hg j hj (by omega));rw[Rj,Bool.false_or]at loops;refine fm [1,2,6] [2] (λi:Nat=>i<=m.catches.length/\∀ j (hj:j < m.catches.length),j < i->(decide (m.catches[j].to=at_))=false) (λi=>m.catches.length-i)
     (λi=>([.v (.int .i64 at_),.l 2 0,.v (.int .i64 i)],[some [.int .i64 m.cls,.int .i64 m.eL,.slice p1 m.args.length c1,.int .i64 m.out,.int .i64 m.locals,.slice p2 m.code.length c2,.slice p3 m.aL.length c3,.slice p4 m.catches.length c4]],h)) 0 ⟨by omega,λ_ _ hx=>by omega⟩ rfl ?_
    rintro i ⟨hi,rR⟩;conv=>whnf
    apply ax<;>intro g2;all_goals conv=>whnf
    ·have cG:i < m.catches.length:=by omega
     obtain⟨bi,oi,rO,r1⟩:=Xo cG;repeat' ((first|refine aO rO ?_|refine ld r1 ?_|refine aq ?_|refine aj ?_|refine ptr ?_)<;>conv=>whnf)
     apply ax<;>intro g4;all_goals conv=>whnf
     ·exact⟨yes (by rw[loops];exact BF cG (decide_eq_true g4)),rfl⟩
     ·refine aj ?_;conv=>whnf
      refine dm (i+1) ⟨by omega,λj hj jv=>?_⟩ (by omega) rfl;rcases Nat.lt_succ_iff_lt_or_eq.1 jv with gH|rfl
      ·exact rR j hj gH
      ·exact decide_eq_false g4
    ·have KS:=any_none (p:=λx:mU=>decide (x.to=at_)) (l:=m.catches) (λj hj=>rR j hj (by omega));exact⟨no (by rw[loops];exact KS),rfl⟩
  ·conv=>whnf
   exact⟨yes (first rfl),rfl⟩
 ·rw[decide_eq_false g,Bool.false_and]at loops;replace loops:=loops rfl
  refine fm [1,2,5] [2] (λi:Nat=>i<=m.code.length/\∀ j (hj:j < m.code.length),j < i->(dJ m.code[j]&&decide (m.code[j].a=at_))=false) (λi=>m.code.length-i)
   (λi=>([.v (.int .i64 at_),.l 2 0,.v (.int .i64 i)],[some [.int .i64 m.cls,.int .i64 m.eL,.slice p1 m.args.length c1,.int .i64 m.out,.int .i64 m.locals,.slice p2 m.code.length c2,.slice p3 m.aL.length c3,.slice p4 m.catches.length c4]],h)) 0 ⟨by omega,λ_ _ hx=>by omega⟩ rfl ?_
  rintro i ⟨hi,hg⟩;conv=>whnf
  apply ax<;>intro g2;all_goals conv=>whnf
  ·have cG:i < m.code.length:=by omega
   obtain⟨bi,oi,rO,f1⟩:=Ri cG;have r1:=aK f1 (i:=1) rfl;have hj:=jY m.code[i].kind m.code[i].a m.code[i].b h;change Pure _ _ _ _ (.bool (dJ m.code[i]))at hj
   have KR:dJ m.code[i]=true->m.code[i].a=at_->iV m at_=true:=λe1 e2=>by
    rw[loops,BF cG (by rw[e1,decide_eq_true e2];rfl),Bool.true_or]
   have next:(dJ m.code[i]&&decide (m.code[i].a=at_))=false->∀ j (hj:j < m.code.length),j < i+1->(dJ m.code[j]&&decide (m.code[j].a=at_))=false:=λe j hj jv=>by
    rcases Nat.lt_succ_iff_lt_or_eq.1 jv with gH|rfl
    ·exact hg j hj gH
    ·exact e
   generalize hjx:dJ m.code[i]=j at hj KR next;repeat' ((first|refine aO rO ?_|refine dK f1 ?_|refine ay hj ?_|refine aq ?_|refine aj ?_|refine ptr ?_)<;>conv=>whnf)
   cases j
   ·conv=>whnf
    refine aj ?_;conv=>whnf
    exact dm (i+1) ⟨by omega,next rfl⟩ (by omega) rfl
   ·conv=>whnf
    repeat' ((first|refine aO rO ?_|refine ld r1 ?_|refine aq ?_|refine aj ?_|refine ptr ?_)<;>conv=>whnf)
    apply ax<;>intro g4;all_goals conv=>whnf
    ·exact⟨yes (KR rfl g4),rfl⟩
    ·refine aj ?_;conv=>whnf
     exact dm (i+1) ⟨by omega,next (by rw[decide_eq_false g4];rfl)⟩ (by omega) rfl
  ·have Rj:=any_none (p:=λx=>dJ x&&decide (x.a=at_)) (l:=m.code) (λj hj=>hg j hj (by omega));rw[Rj,Bool.false_or]at loops;refine fm [1,2,6] [2] (λi:Nat=>i<=m.catches.length/\∀ j (hj:j < m.catches.length),j < i->(decide (m.catches[j].to=at_))=false) (λi=>m.catches.length-i)
    (λi=>([.v (.int .i64 at_),.l 2 0,.v (.int .i64 i)],[some [.int .i64 m.cls,.int .i64 m.eL,.slice p1 m.args.length c1,.int .i64 m.out,.int .i64 m.locals,.slice p2 m.code.length c2,.slice p3 m.aL.length c3,.slice p4 m.catches.length c4]],h)) 0 ⟨by omega,λ_ _ hx=>by omega⟩ rfl ?_
   rintro i ⟨hi,rR⟩;conv=>whnf
   apply ax<;>intro g2;all_goals conv=>whnf
   ·have cG:i < m.catches.length:=by omega
    obtain⟨bi,oi,rO,r1⟩:=Xo cG;repeat' ((first|refine aO rO ?_|refine ld r1 ?_|refine aq ?_|refine aj ?_|refine ptr ?_)<;>conv=>whnf)
    apply ax<;>intro g4;all_goals conv=>whnf
    ·exact⟨yes (by rw[loops];exact BF cG (decide_eq_true g4)),rfl⟩
    ·refine aj ?_;conv=>whnf
     refine dm (i+1) ⟨by omega,λj hj jv=>?_⟩ (by omega) rfl;rcases Nat.lt_succ_iff_lt_or_eq.1 jv with gH|rfl
     ·exact rR j hj gH
     ·exact decide_eq_false g4
   ·have KS:=any_none (p:=λx:mU=>decide (x.to=at_)) (l:=m.catches) (λj hj=>rR j hj (by omega));exact⟨no (by rw[loops];exact KS),rfl⟩
def An (r:List Value):Prop:=∃ p c q d,r=[.bool false,.slice p 0 c,.slice q 0 d]
theorem An.Rk {r:List Value} (hr:An r) (h:Heap):lV h r mO:=by
 obtain⟨p,c,q,d,rfl⟩:=hr;exact⟨_,_,rfl,hY _ _ _,hY _ _ _⟩
theorem Ao {h h':Heap} {p:Option Addr} {k c:Nat} {aP:List (List Value)} {B:List Nat} (ho:cn 3 h' (.slice p k c) aP B) (hn:aP.length=k) (hk:1<=k) (hr:∀ r∈aP,An r) (hB:∀ b∈B,h b=none) (hl:h.le h') :
  ∃ b,p=some ⟨b,0,none⟩/\iB h h' b c (List.replicate k mO):=by
 have EI:=ho;obtain⟨hx,⟨he,OI,_⟩|⟨b,c',rest,t,he,hc,U,_,rfl⟩⟩:=ho
 ·rw[OI]at hn;simp at hn;omega
 simp only[Value.slice.injEq]at he;obtain⟨rfl,Qw,rfl⟩:=he;refine⟨b,rfl,hl,hB b (by simp),aP,by simpa using EI,by simpa using hn,λi h1 h2=>?_⟩;rw[List.getElem_replicate];exact(hr _ (List.getElem_mem h1)).Rk _
theorem Fo (us ms:List Value) (u:aU) (m:cB) (h:Heap) (hu:dL h us u) (hm:ee h ms m) (hV:HI u) (hM:Q9 u m) :
  bI prog 169 [.agg ⟨us⟩,.agg ⟨ms⟩] h
   λv h'=>h.le h'/\∃ b c A,v=.slice (some ⟨b,0,none⟩) A.length c/\iB h h' b c A/\A.length=m.code.length/\qN u.J.length m.locals A:=by
 have iJ:=hu;have Ii:=hm;have ok:=hV.1;have zm:=ok.2.1;have sG:=hM.head.2.2.2.2.1;have lq:=hM.len;have Nr:=λh1 b c A at_ a hA W4 m4=>Dx us ms u m h h1 b c A at_ hu hm hV hM a hA W4 m4;have yU:=λhh (hl:h.le hh)=>tw us ms m u.J.length hh (hm.le hl) hM.head zm;have Xp:=λat_ hh (hl:h.le hh) m4=>Dz ms m at_ hh (hm.le hl) m4;obtain⟨p,cc,q,d,rfl,hcs,fM,jN,hl2⟩:=hu.form;obtain⟨p1,c1,p2,c2,p3,c3,p4,c4,rfl,k1,k2,k3,k4,k5,k6,k7,k8,d1,d2,d3,d4⟩:=hm.form;refine bS au func169 T8 T9 rfl ?_;conv=>whnf
 refine dI [] rfl (λb0 h1 uY e0 l1 g0=>?_);conv=>whnf
 have o0:cn 3 h1 (.slice (some ⟨b0,0,none⟩) 0 0) [] [b0]:=⟨by simp,.inr ⟨b0,0,[],_,rfl,by simp,by simpa using g0,by simp,rfl⟩⟩
 refine fm [2,3,5,6] [2,3] (λy:Nat × Heap × Option Addr × Nat × List (List Value) × List Nat=>y.1<=m.code.length/\h.le y.2.1/\cn 3 y.2.1 (.slice y.2.2.1 y.1 y.2.2.2.1) y.2.2.2.2.1 y.2.2.2.2.2/\y.2.2.2.2.1.length=y.1/\(∀ r∈y.2.2.2.2.1,An r)/\∀ b∈y.2.2.2.2.2,h b=none) (λy=>m.code.length-y.1)
  (λy=>([.l 2 0,.l 3 0,.v (.slice y.2.2.1 y.1 y.2.2.2.1),.v (.int .i64 y.1)],
   [some [.slice p u.J.length cc,.slice q u.methods.length d],some [.int .i64 m.cls,.int .i64 m.eL,.slice p1 m.args.length c1,.int .i64 m.out,.int .i64 m.locals,.slice p2 m.code.length c2,.slice p3 m.aL.length c3,.slice p4 m.catches.length c4]],y.2.1))
  (0,h1,some ⟨b0,0,none⟩,0,[],[b0]) ⟨by omega,l1,o0,rfl,by simp,by simpa using uY⟩ rfl ?_
 rintro⟨k,h2,pa,ca,aP,B⟩ ⟨hk,l2,o2,n2,r2,f2⟩;simp only at hk l2 o2 n2 r2 f2 ⊢;conv=>whnf
 apply ax<;>intro g;all_goals conv=>whnf
 ·refine aD (jX h2) (λv h3 hh=>?_);have l3:=hh.1;refine hh.2.elim λb1 hh=>hh.elim λb2 hv=>?_;subst hv;conv=>whnf
  refine cY (h0:=h) (xs:=aP) (ys:=[[.bool false,.slice (some ⟨b1,0,none⟩) 0 0,.slice (some ⟨b2,0,none⟩) 0 0]]) (B:=B) (o2.aG (cC.of_le l3 _)) f2 (Heap.le_trans l2 l3) rfl rfl (by simp) rfl rfl (by simp;omega) (by simp;omega) ?_;intro v4 h4 B4 w1 w2 w3 w4 w5;have ff:=w2.form;refine ff.elim λp5 ff=>ff.elim λc5 hf=>?_;have Xq:=hf.1;have R4:(aP++[[Value.bool false,.slice (some ⟨b1,0,none⟩) 0 0,.slice (some ⟨b2,0,none⟩) 0 0]]).length=k+1:=by simp[n2]
  rw[R4]at Xq;subst Xq;conv=>whnf
  refine aj ?_;conv=>whnf
  refine dm (k+1,h4,p5,c5,aP++[[.bool false,.slice (some ⟨b1,0,none⟩) 0 0,.slice (some ⟨b2,0,none⟩) 0 0]],B4) ⟨by simp only;omega,w1,w2,R4,λr hr=>?_,w3⟩ (by simp only;omega) rfl;rcases List.mem_append.1 hr with hr|hr
  ·exact r2 r hr
  ·rw[List.mem_singleton.1 hr];exact⟨_,_,_,_,rfl⟩
 ·have hke:k=m.code.length:=by omega
  subst hke;obtain⟨b,rfl,a2⟩:=Ao o2 n2 lq.1 r2 f2 l2;obtain⟨o,mS⟩:=a2.in;have Iq:(List.replicate m.code.length mO).length=m.code.length:=by simp
  refine kO mS (yU (aW h2 b) a2.hle) (λv h3 l3 hr=>?_);have a3:=a2.aG l3;refine hr.elim λq1 hr=>hr.elim λe1 hr=>hr.elim λq2 hr=>hr.elim λe2 hr=>?_;have hv:=hr.1;subst hv;have OY:=hr.2;refine(a3.at (i:=0) (by omega)).elim λ_ hp=>hp.elim λ_ hp=>hp.elim λ_ hp=>hp.elim λ_ hp=>?_;have put:=hp.2.2.2;conv=>whnf
  repeat' ((first|refine aq ?_|refine aj ?_|refine ptr ?_)<;>conv=>whnf)
  refine put _ (jl m) _ (zE.of OY) (λh4 wU a4=>?_);have v4:qN u.J.length m.locals ((List.replicate m.code.length mO).set 0 (jl m)):=uM (λs hs ht=>by rw[List.eq_of_mem_replicate hs]at ht;cases ht) 0 (λ_=>uK hM.head zm);have n4:((List.replicate m.code.length mO).set 0 (jl m)).length=m.code.length:=by simp
  generalize (List.replicate m.code.length mO).set 0 (jl m)=A4 at a4 v4 n4;clear put hp OY a3 a2;conv=>whnf
  refine fm [2,3,5,7] [2,3] (λy:Heap × List dH × Bool=>iB h y.1 b ca y.2.1/\qN u.J.length m.locals y.2.1/\y.2.1.length=m.code.length) (λy=>2*mu y.2.1+y.2.2.toNat)
   (λy=>([.l 2 0,.l 3 0,.v (.slice (some ⟨b,0,none⟩) m.code.length ca),.v (.bool y.2.2)],
    [some [.slice p u.J.length cc,.slice q u.methods.length d],some [.int .i64 m.cls,.int .i64 m.eL,.slice p1 m.args.length c1,.int .i64 m.out,.int .i64 m.locals,.slice p2 m.code.length c2,.slice p3 m.aL.length c3,.slice p4 m.catches.length c4]],y.1))
   (h4,A4,true) ⟨a4,v4,n4⟩ rfl ?_
  rintro⟨h5,A5,ch5⟩ ⟨a5,v5,n5⟩;simp only at a5 v5 n5 ⊢;cases ch5
  ·conv=>whnf
   refine fm [3,5,9] [3] (λy:Nat × Heap × List dH=>y.1<=m.code.length/\iB h y.2.1 b ca y.2.2/\qN u.J.length m.locals y.2.2/\y.2.2.length=m.code.length) (λy=>m.code.length-y.1)
    (λy=>([.l 3 0,.v (.slice (some ⟨b,0,none⟩) m.code.length ca),.v (.int .i64 y.1)],
     [some [.int .i64 m.cls,.int .i64 m.eL,.slice p1 m.args.length c1,.int .i64 m.out,.int .i64 m.locals,.slice p2 m.code.length c2,.slice p3 m.aL.length c3,.slice p4 m.catches.length c4]],y.2.1))
    (0,h5,A5) ⟨by omega,a5,v5,n5⟩ rfl ?_
   rintro⟨i,h6,A6⟩ ⟨hi,a6,v6,n6⟩;simp only at hi a6 v6 n6 ⊢;conv=>whnf
   apply ax<;>intro g2;all_goals conv=>whnf
   ·have hw:=Xp i h6 a6.le ⟨by omega,g2⟩;generalize iV m i=w at hw;refine ay hw ?_;cases w
    ·conv=>whnf
     refine aD (jX h6) (λv h7 hh=>?_);have l7:=hh.1;refine hh.2.elim λb1 hh=>hh.elim λb2 hv=>?_;subst hv;have a7:=a6.aG l7;refine(a7.at (i:=i) (by omega)).elim λ_ hp=>hp.elim λ_ hp=>hp.elim λ_ hp=>hp.elim λ_ hp=>?_;have put:=hp.2.2.2;conv=>whnf
     repeat' ((first|refine aq ?_|refine aj ?_|refine ptr ?_)<;>conv=>whnf)
     refine put _ mO _ (An.Rk ⟨_,_,_,_,rfl⟩ _) (λh8 hh8 a8=>?_);conv=>whnf
     refine aj ?_;conv=>whnf
     exact dm (i+1,h8,A6.set i mO) ⟨by simp only;omega,a8,uM v6 i (λhx=>by cases hx),by simpa using n6⟩ (by simp only;omega) rfl
    ·conv=>whnf
     refine aj ?_;conv=>whnf
     exact dm (i+1,h6,A6) ⟨by simp only;omega,a6,v6,n6⟩ (by simp only;omega) rfl
   ·exact⟨a6.le,b,ca,A6,by rw[n6],a6,n6,v6⟩
  ·conv=>whnf
   refine fm [2,3,5,7,8] [2,3] (λy:Nat × Heap × List dH × Bool=>y.1<=m.code.length/\Grown h h5 b ca u.J.length m.locals A5 y.2.1 y.2.2.1 y.2.2.2) (λy=>m.code.length-y.1)
    (λy=>([.l 2 0,.l 3 0,.v (.slice (some ⟨b,0,none⟩) m.code.length ca),.v (.bool y.2.2.2),.v (.int .i64 y.1)],
     [some [.slice p u.J.length cc,.slice q u.methods.length d],some [.int .i64 m.cls,.int .i64 m.eL,.slice p1 m.args.length c1,.int .i64 m.out,.int .i64 m.locals,.slice p2 m.code.length c2,.slice p3 m.aL.length c3,.slice p4 m.catches.length c4]],y.2.1))
    (0,h5,A5,false) ⟨by omega,Grown.start a5 v5⟩ rfl ?_
   rintro⟨i,h6,A6,ch6⟩ ⟨hi,g6⟩;simp only at hi g6 ⊢;have n6:=g6.len;conv=>whnf
   apply ax<;>intro g2;all_goals conv=>whnf
   ·have BW:=Nr h6 b ca A6 i g6.all g6.val (by omega) ⟨by omega,by omega⟩;rw[show A6.length=m.code.length by omega]at BW;refine aD BW (λv h7 hh=>?_);refine hh.elim λch7 hh=>hh.elim λA7 hh=>?_;have hv:=hh.1;subst hv;have g7:=g6.trans hh.2;cases ch7
    ·conv=>whnf
     refine aj ?_;conv=>whnf
     exact dm (i+1,h7,A7,ch6) ⟨by simp only;omega,by simpa using g7⟩ (by simp only;omega) rfl
    ·conv=>whnf
     refine aj ?_;conv=>whnf
     exact dm (i+1,h7,A7,true) ⟨by simp only;omega,by simpa using g7⟩ (by simp only;omega) rfl
   ·refine dm (h6,A6,ch6) ⟨g6.all,g6.val,by simp only;omega⟩ ?_ rfl;have OF:=g6.mu;have Ki:=g6.less;cases ch6
    ·show 2*mu A6+0 < 2*mu A5+1;omega
    ·have:=Ki rfl;show 2*mu A6+1 < 2*mu A5+1;omega
def iR (m:cB) (i:Int):dH:=m.aL.getD i.toNat mO
def jr (u:aU) (m:cB) (i:Int) (s:dH):Bool:=(iR m i).told&&Cb u.J s (iR m i)
def pJ (u:aU) (m:cB) (i:Int) (s nx:dH):Bool:=(!dJ (fQ m i)||jr u m (fQ m i).a nx)&&m.catches.all (λc=>!decide (c.lo<=i/\i<=c.hi-1)||jr u m c.to (eJ c.cls s))
structure YL (u:aU) (m:cB):Prop where
 mi:Q9 u m
 num:m.aL.length=m.code.length
 val:qN u.J.length m.locals m.aL
theorem all_none {α:Type} {l:List α} {p:α->Bool} {i:Nat} (hi:i < l.length) (h:p l[i]=false):l.all p=false:=by
 rw[List.all_eq_false];exact⟨_,List.getElem_mem hi,by rw[h];simp⟩
theorem KT {α:Type} {l:List α} {p:α->Bool} (h:∀ j (hj:j < l.length),p l[j]=true):l.all p=true:=by
 rw[List.all_eq_true];intro x hx;obtain⟨j,hj,rfl⟩:=List.mem_iff_getElem.1 hx;exact h j hj
theorem KU {h:Heap} {p:Option Addr} {n c:Nat} {l:List dH} (hr:Row 3 lV h (.slice p n c) l) {i:Nat} (hi:i < l.length):∃ b o p1 c1 p2 c2,p=some ⟨b,o,none⟩/\eG h b (o+i*3) 3=some [.bool l[i].told,.slice p1 l[i].locals.length c1,.slice p2 l[i].stack.length c2]/\rd h b (o+i*3)=some (.bool l[i].told)/\si h l[i] p1 p2 c1 c2:=by
 obtain⟨b,o,vs,hq,e1,a,k,e2,e3,e4⟩:=hr.get hi;have f1:=e3.len;obtain⟨p1,c1,rfl,_,_⟩:=f1;have f2:=e4.len;obtain⟨p2,c2,rfl,_,_⟩:=f2;subst e2;exact⟨b,o,p1,c1,p2,c2,hq,e1,by simpa using aK e1 (i:=0) rfl,e3,e4⟩
theorem HN (us ms:List Value) (u:aU) (m:cB) (at_:Int) (s:dH) (v:Value) (h:Heap) (hu:dL h us u) (hm:ee h ms m) (ok:cj u.J) (hM:YL u m) (m4:0<=at_/\at_ < m.code.length) (hs:uJ u.J.length m.locals s) (hr:zE h v s) :
  Pure prog 190 [.agg ⟨us⟩,.agg ⟨ms⟩,.int .i64 at_,v] h (.bool (jr u m at_ s)):=by
 obtain⟨p,cc,q,d,rfl,hcs,fM,jN,hl2⟩:=hu.form;obtain⟨p1,c1,p2,c2,p3,c3,p4,c4,rfl,k1,k2,k3,k4,k5,k6,k7,k8,d1,d2,d3,d4⟩:=hm.form;obtain⟨q1,e1,q2,e2,rfl,hI⟩:=hr;have Rm:=hM.num;have hi:at_.toNat < m.aL.length:=by omega
 obtain⟨b,o,lp,lc,kp,kc,hq,f1,f2,hJ⟩:=KU k7 hi;have lT:iR m at_=m.aL[at_.toNat]:=pI hi;have hV:=hM.val _ (List.getElem_mem hi);unfold jr;rw[lT];generalize m.aL[at_.toNat]=r at f1 f2 hJ hV;have fI:=λht:r.told=true=>BB p u.J.length cc u.J s r q1 q2 lp kp e1 e2 lc kc h hcs ok hI hJ (by have:=(hV ht).loc;have:=hs.loc;omega) (λt ht=>(hs.fK t ht).2) (λt ht=>(hs.cA t ht).2) (λt h2=>((hV ht).fK t h2).2) (λt h2=>((hV ht).cA t h2).2);refine gN au func190 UA UB rfl ?_;conv=>whnf
 generalize hrt:r.told=rt at f1 f2 fI ⊢;cases rt
 ·repeat' ((first|exact trivial|exact⟨rfl,rfl⟩|apply And.intro|refine aq ?_|refine aO hq ?_|refine ld f2 ?_)<;>conv=>whnf)
 ·have fI:=fI rfl;repeat' ((first|exact trivial|exact⟨rfl,rfl⟩|apply And.intro|refine aq ?_|refine aO hq ?_|refine ld f2 ?_|refine dK f1 ?_|refine aT fI ?_)<;>conv=>whnf)
theorem Fp (us ms:List Value) (u:aU) (m:cB) (at_:Int) (s nx:dH) (v w:Value) (h:Heap) (hu:dL h us u) (hm:ee h ms m) (ok:cj u.J) (hM:YL u m) (m4:0<=at_/\at_ < m.code.length) (hs:uJ u.J.length m.locals s) (hr:zE h v s) (hn:uJ u.J.length m.locals nx) (hw:zE h w nx) :
  bI prog 162 [.agg ⟨us⟩,.agg ⟨ms⟩,.int .i64 at_,v,w] h λx h'=>h.le h'/\x=.bool (pJ u m at_ s nx):=by
 have Gr:=λi h1 (hl:h.le h1) m4 x y hx hy=>HN us ms u m i x y h1 (hu.le hl) (hm.le hl) ok hM m4 hx hy;obtain⟨p,cc,q,d,rfl,hcs,fM,jN,hl2⟩:=hu.form;obtain⟨p1,c1,p2,c2,p3,c3,p4,c4,rfl,k1,k2,k3,k4,k5,k6,k7,k8,d1,d2,d3,d4⟩:=hm.form;obtain⟨q1,e1,q2,e2,rfl,hI⟩:=hr;have pS:=hw;obtain⟨q3,e3,q4,e4,rfl,hJ⟩:=hw;have zm:=ok.2.1;have lq:=hM.mi.len;have R5:=hM.mi.cat.1;have sG:=hM.mi.head.2.2.2.2.1;have Im:=hs.loc;have Dy:at_.toNat < m.code.length:=by omega
 obtain⟨bi,oi,vi,rO,f1,f2,f3⟩:=k6.get Dy;have lT:fQ m at_=m.code[at_.toNat]:=pI Dy;have qP:=λhj=>(hM.mi.code _ (List.getElem_mem Dy)).jump hj;subst f2;have KP:=λhh=>jY m.code[at_.toNat].kind m.code[at_.toNat].a m.code[at_.toNat].b hh;have HO:pJ u m at_ s nx=((!dJ m.code[at_.toNat]||jr u m m.code[at_.toNat].a nx)&&m.catches.all (λc=>!decide (c.lo<=at_/\at_<=c.hi-1)||jr u m c.to (eJ c.cls s))):=by unfold pJ;rw[lT]
 change ∀ hh,Pure _ _ _ hh (.bool (dJ m.code[at_.toNat]))at KP
 generalize m.code[at_.toNat]=x at f1 qP KP HO;obtain⟨ik,ia,ib⟩:=x;simp only at f1 qP HO KP;have r1:=aK f1 (i:=1) rfl;generalize dJ ⟨ik,ia,ib⟩=j at KP qP HO;generalize pJ u m at_ s nx=res at HO;have fin:∀ {b:Bool} {h':Heap},h.le h'->res=b->h.le h'/\Value.bool b=.bool res:=λhl e=>⟨hl,by rw[e]⟩
 refine bS au func162 TW TX rfl ?_;conv=>whnf
 have Xr:(j=true/\jr u m ia nx=false/\0<=ia/\ia < m.code.length)\/((!j||jr u m ia nx)=true/\(j=true->0<=ia/\ia < m.code.length)):=by
  cases j
  ·exact .inr ⟨rfl,qP⟩
  ·cases ht:jr u m ia nx
   ·exact .inl ⟨rfl,rfl,qP rfl⟩
   ·exact .inr ⟨rfl,qP⟩
 have loop:True:=trivial;rcases Xr with ⟨rfl,ht,Ok⟩|⟨Xr,Ok⟩
 ·have h1:=Gr ia h (Heap.le_refl h) Ok nx _ hn pS;rw[ht]at h1 HO;repeat' ((first|exact trivial|exact fin (Heap.le_refl h) HO|apply And.intro|refine aq ?_|refine aO rO ?_|refine dK f1 ?_|refine ld r1 ?_|refine aT (KP _) ?_|refine aT h1 ?_)<;>conv=>whnf)
 ·rw[Xr,Bool.true_and]at HO;have h1:=λhj=>Gr ia h (Heap.le_refl h) (Ok hj) nx _ hn pS;have aa7:j=true->jr u m ia nx=true:=λe=>by rw[e]at Xr;simpa using Xr
  cases j
  ·repeat' ((first|exact trivial|apply And.intro|refine aq ?_|refine aO rO ?_|refine dK f1 ?_|refine ld r1 ?_|refine aT (KP _) ?_)<;>conv=>whnf)
   all_goals
    refine fm [2,5,6,8,11] [5,6,8] (λy:Nat × Heap=>y.1<=m.catches.length/\h.le y.2/\∀ j (hj:j < m.catches.length),j < y.1->(!decide (m.catches[j].lo<=at_/\at_<=m.catches[j].hi-1)||jr u m m.catches[j].to (eJ m.catches[j].cls s))=true) (λy=>m.catches.length-y.1)
     (λy=>([.v (.int .i64 at_),.l 5 0,.l 6 0,.l 8 0,.v (.int .i64 y.1)],
      [some [.slice p u.J.length cc,.slice q u.methods.length d],some [.int .i64 m.cls,.int .i64 m.eL,.slice p1 m.args.length c1,.int .i64 m.out,.int .i64 m.locals,.slice p2 m.code.length c2,.slice p3 m.aL.length c3,.slice p4 m.catches.length c4],some [.bool s.told,.slice q1 s.locals.length e1,.slice q2 s.stack.length e2]],y.2))
     (0,h) ⟨by omega,Heap.le_refl h,λ_ _ hx=>by simp only at hx;omega⟩ rfl ?_
    rintro⟨i,h5⟩ ⟨Xh,l5,g5⟩;simp only at Xh l5 g5 ⊢;conv=>whnf
    apply ax<;>intro g2;all_goals conv=>whnf
    ·have cG:i < m.catches.length:=by omega
     obtain⟨bb,off,vs,KM,w1,w2,w3⟩:=k8.get cG;subst w2;have E6:=hM.mi.cat.2 _ (List.getElem_mem cG);have here:(!decide (m.catches[i].lo<=at_/\at_<=m.catches[i].hi-1)||jr u m m.catches[i].to (eJ m.catches[i].cls s))=false->res=false:=λe=>by rw[HO];exact all_none cG e
     have next:(!decide (m.catches[i].lo<=at_/\at_<=m.catches[i].hi-1)||jr u m m.catches[i].to (eJ m.catches[i].cls s))=true->∀ j (hj:j < m.catches.length),j < i+1->(!decide (m.catches[j].lo<=at_/\at_<=m.catches[j].hi-1)||jr u m m.catches[j].to (eJ m.catches[j].cls s))=true:=λe j hj jv=>by
      rcases Nat.lt_succ_iff_lt_or_eq.1 jv with gH|rfl
      ·exact g5 j hj gH
      ·exact e
     generalize m.catches[i]=ct at w1 w3 E6 here next;obtain⟨lo,wg,to,cls⟩:=ct;obtain⟨⟨Xi,Xj,Rg,Rh⟩,⟨Xk,Xl⟩,⟨OW,OX⟩,_⟩:=E6;simp only at w1 Xi Xj Rg Rh Xk Xl OW OX here next;have KN:=iI l5 _ _ _ w1;repeat' ((first|refine aO KM ?_|refine dK KN ?_|refine aq ?_|refine aj ?_|refine ptr ?_)<;>conv=>whnf)
     have h6:=λhh=>er at_ lo (wg-1) hh;have Ou:=vV hs ⟨OW,OX⟩;have Fm:=qL lo wg to cls s q1 q2 e1 e2 h5 (hI.le l5) (by omega) (by omega);generalize decide (lo<=at_/\at_<=wg-1)=Xm at h6 here next;cases Xm
     ·repeat' ((first|exact trivial|apply And.intro|refine aj ?_|refine aT (h6 _) ?_)<;>conv=>whnf)
      all_goals exact dm (i+1,h5) ⟨by simp only;omega,l5,next rfl⟩ (by simp only;omega) rfl
     ·have kS:=λh7 l7 y hy=>Gr to h7 (Heap.le_trans l5 l7) ⟨Rg,Rh⟩ (eJ cls s) y Ou hy;generalize jr u m to (eJ cls s)=tl at kS here next;cases tl
      ·have gD:=here rfl;repeat' ((first|exact trivial|exact fin (Heap.le_trans l5 BG.1) gD|apply And.intro|refine aj ?_|refine aT (h6 _) ?_|refine cE Fm (λv h7 BG=>⟨BG.1,?_⟩)|refine aT (kS _ BG.1 _ BG.2) ?_)<;>conv=>whnf)
      ·have next:=next rfl;repeat' ((first|exact trivial|apply And.intro|refine aj ?_|refine aT (h6 _) ?_|refine cE Fm (λv h7 BG=>⟨BG.1,?_⟩)|refine aT (kS _ BG.1 _ BG.2) ?_)<;>conv=>whnf)
       all_goals exact dm (i+1,h7) ⟨by simp only;omega,Heap.le_trans l5 BG.1,next⟩ (by simp only;omega) rfl
    ·exact fin l5 (by rw[HO];exact KT λj hj=>g5 j hj (by omega))
  ·have h1:=h1 rfl;rw[aa7 rfl]at h1;repeat' ((first|exact trivial|apply And.intro|refine aq ?_|refine aO rO ?_|refine dK f1 ?_|refine ld r1 ?_|refine aT (KP _) ?_|refine aT h1 ?_)<;>conv=>whnf)
   all_goals
    refine fm [2,5,6,8,11] [5,6,8] (λy:Nat × Heap=>y.1<=m.catches.length/\h.le y.2/\∀ j (hj:j < m.catches.length),j < y.1->(!decide (m.catches[j].lo<=at_/\at_<=m.catches[j].hi-1)||jr u m m.catches[j].to (eJ m.catches[j].cls s))=true) (λy=>m.catches.length-y.1)
     (λy=>([.v (.int .i64 at_),.l 5 0,.l 6 0,.l 8 0,.v (.int .i64 y.1)],
      [some [.slice p u.J.length cc,.slice q u.methods.length d],some [.int .i64 m.cls,.int .i64 m.eL,.slice p1 m.args.length c1,.int .i64 m.out,.int .i64 m.locals,.slice p2 m.code.length c2,.slice p3 m.aL.length c3,.slice p4 m.catches.length c4],some [.bool s.told,.slice q1 s.locals.length e1,.slice q2 s.stack.length e2]],y.2))
     (0,h) ⟨by omega,Heap.le_refl h,λ_ _ hx=>by simp only at hx;omega⟩ rfl ?_
    rintro⟨i,h5⟩ ⟨Xh,l5,g5⟩;simp only at Xh l5 g5 ⊢;conv=>whnf
    apply ax<;>intro g2;all_goals conv=>whnf
    ·have cG:i < m.catches.length:=by omega
     obtain⟨bb,off,vs,KM,w1,w2,w3⟩:=k8.get cG;subst w2;have E6:=hM.mi.cat.2 _ (List.getElem_mem cG);have here:(!decide (m.catches[i].lo<=at_/\at_<=m.catches[i].hi-1)||jr u m m.catches[i].to (eJ m.catches[i].cls s))=false->res=false:=λe=>by rw[HO];exact all_none cG e
     have next:(!decide (m.catches[i].lo<=at_/\at_<=m.catches[i].hi-1)||jr u m m.catches[i].to (eJ m.catches[i].cls s))=true->∀ j (hj:j < m.catches.length),j < i+1->(!decide (m.catches[j].lo<=at_/\at_<=m.catches[j].hi-1)||jr u m m.catches[j].to (eJ m.catches[j].cls s))=true:=λe j hj jv=>by
      rcases Nat.lt_succ_iff_lt_or_eq.1 jv with gH|rfl
      ·exact g5 j hj gH
      ·exact e
     generalize m.catches[i]=ct at w1 w3 E6 here next;obtain⟨lo,wg,to,cls⟩:=ct;obtain⟨⟨Xi,Xj,Rg,Rh⟩,⟨Xk,Xl⟩,⟨OW,OX⟩,_⟩:=E6;simp only at w1 Xi Xj Rg Rh Xk Xl OW OX here next;have KN:=iI l5 _ _ _ w1;repeat' ((first|refine aO KM ?_|refine dK KN ?_|refine aq ?_|refine aj ?_|refine ptr ?_)<;>conv=>whnf)
     have h6:=λhh=>er at_ lo (wg-1) hh;have Ou:=vV hs ⟨OW,OX⟩;have Fm:=qL lo wg to cls s q1 q2 e1 e2 h5 (hI.le l5) (by omega) (by omega);generalize decide (lo<=at_/\at_<=wg-1)=Xm at h6 here next;cases Xm
     ·repeat' ((first|exact trivial|apply And.intro|refine aj ?_|refine aT (h6 _) ?_)<;>conv=>whnf)
      all_goals exact dm (i+1,h5) ⟨by simp only;omega,l5,next rfl⟩ (by simp only;omega) rfl
     ·have kS:=λh7 l7 y hy=>Gr to h7 (Heap.le_trans l5 l7) ⟨Rg,Rh⟩ (eJ cls s) y Ou hy;generalize jr u m to (eJ cls s)=tl at kS here next;cases tl
      ·have gD:=here rfl;repeat' ((first|exact trivial|exact fin (Heap.le_trans l5 BG.1) gD|apply And.intro|refine aj ?_|refine aT (h6 _) ?_|refine cE Fm (λv h7 BG=>⟨BG.1,?_⟩)|refine aT (kS _ BG.1 _ BG.2) ?_)<;>conv=>whnf)
      ·have next:=next rfl;repeat' ((first|exact trivial|apply And.intro|refine aj ?_|refine aT (h6 _) ?_|refine cE Fm (λv h7 BG=>⟨BG.1,?_⟩)|refine aT (kS _ BG.1 _ BG.2) ?_)<;>conv=>whnf)
       all_goals exact dm (i+1,h7) ⟨by simp only;omega,Heap.le_trans l5 BG.1,next⟩ (by simp only;omega) rfl
    ·exact fin l5 (by rw[HO];exact KT λj hj=>g5 j hj (by omega))
theorem iB.app {h0 h:Heap} {b c n bytes:Nat} {A:List dH} {zero:List Value} {el:TypeId} {vs:List Value} {s:dH} {K:Value->Heap->Prop} (a:iB h0 h b c A) (hn:n=A.length) (iT:lV (aW h b) vs s) (hA:A.length<=1000) (hz:zero.length=3) (U:bytes<=100)
  (hk:∀ b' c' h',iB h0 h' b' c' (A++[s])->(aW h b).le (aW h' b')->K (.slice (some ⟨b',0,none⟩) (A.length+1) c') h'):App bytes 3 zero el h (some ⟨b,0,none⟩) n c 1 vs K:=by
 subst hn;obtain⟨aP,ho,hn,hr⟩:=a.row;have DY:vs.length=3:=by obtain⟨_,_,rfl,_⟩:=iT;rfl
 have OZ:dG vs=true:=by
  obtain⟨l,k,rfl,h1,h2⟩:=iT;obtain⟨_,_,rfl,_⟩:=h1.len;obtain⟨_,_,rfl,_⟩:=h2.len;rfl
 have hm:(aP.length + [vs].length)*bytes<=1001*100:=Nat.mul_le_mul (by simp;omega) U;refine cY (h0:=h0) (xs:=aP) (ys:=[vs]) (B:=[b]) ho (by simpa using a.fr) a.le (by simp) rfl (by simpa using DY) OZ hz (by omega) (by simp;omega) ?_;intro v' h' B' w1 w2 w3 w4 w5;have Xs:=w2;obtain⟨hx,⟨_,OI,_⟩|⟨b',c',rest,t,rfl,hc,rG,_,rfl⟩⟩:=w2
 ·simp at OI
 have hl2:(aP++[vs]).length=A.length+1:=by simp[hn]
 rw[hl2]at Xs ⊢;have hle:(aW h b).le (aW h' b'):=λx o hx=>by
  unfold aW at hx ⊢;split at hx
  ·cases hx
  rename_i Qh;have cD:x≠b':=by
   rintro rfl;rcases w5 x (by simp)with h1|h1
   ·exact Qh (by simpa using h1)
   ·rw[h1]at hx;cases hx
  rw[if_neg cD,w4 x (by simpa using Qh) (by rw[hx];simp)];exact hx
 refine hk b' c' h' ⟨w1,w3 b' (by simp),aP++[vs],by simpa using Xs,by simp[hn],λi h1 h2=>?_⟩ hle;by_cases hi:i < A.length
 ·rw[List.getElem_append_left (by omega),List.getElem_append_left hi];exact(hr i (by omega) hi).le hle
 ·have IE:i=A.length:=by simp at h2;omega
  subst IE;rw[List.getElem_append_right (by omega),List.getElem_append_right (by omega)];simp only[hn,Nat.sub_self,List.getElem_cons_zero];exact iT.le hle
def m9 (u:aU) (m:cB):Nat->Int->dH->Bool->List dH->List dH × Bool
 | 0,_,_,comes,out=>(out,!comes)
 | k+1,i,s,comes,out =>
  if (iR m i).told=true/\comes=true/\Cb u.J s (iR m i)=false then (out,false)
  else if (iR m i).told=false/\comes=false then (out,false)
  else match stepT u m (fQ m i) (if (iR m i).told=true then iR m i else s)with
   | none=>(out++[if (iR m i).told=true then iR m i else s],false)
   | some nx=>if pJ u m i (if (iR m i).told=true then iR m i else s) nx=true then m9 u m k (i+1) nx (!kW (fQ m i)) (out++[if (iR m i).told=true then iR m i else s])else (out++[if (iR m i).told=true then iR m i else s],false)
def j8 (u:aU) (m:cB):List dH × Bool:=m9 u m m.code.length 0 (jl m) true []
def L5 (u:aU) (m:cB) (k:Nat) (i:Int) (s:dH) (out:List dH):List dH × Bool:=match stepT u m (fQ m i) s with
 | none=>(out++[s],false)
 | some nx=>if pJ u m i s nx=true then m9 u m k (i+1) nx (!kW (fQ m i)) (out++[s])else (out++[s],false)
theorem BH {u:aU} {m:cB} {k:Nat} {i:Int} {s:dH} {comes:Bool} {out:List dH} (ht:(iR m i).told=true):m9 u m (k+1) i s comes out=if comes=true/\Cb u.J s (iR m i)=false then (out,false)else L5 u m k i (iR m i) out:=by
 rw[m9];simp[ht,L5]
theorem DA {u:aU} {m:cB} {k:Nat} {i:Int} {s:dH} {comes:Bool} {out:List dH} (ht:(iR m i).told=false):m9 u m (k+1) i s comes out=if comes=false then (out,false)else L5 u m k i s out:=by
 rw[m9];simp[ht,L5]
theorem DB (us ms:List Value) (u:aU) (m:cB) (h:Heap) (hu:dL h us u) (hm:ee h ms m) (hV:HI u) (hM:YL u m) :
  bI prog 120 [.agg ⟨us⟩,.agg ⟨ms⟩] h
   λv h'=>h.le h'/\∃ sl,v=.tuple #[sl,.bool (j8 u m).2]/\Row 3 lV h' sl (j8 u m).1:=by
 have iJ:=hu;have Ii:=hm;have ok:=hV.1;have zm:=ok.2.1;have sG:=hM.mi.head.2.2.2.2.1;have lq:=hM.mi.len;have Rm:=hM.num;have eU:=hM.mi.head.2.2.1;have yU:=λhh (hl:h.le hh)=>tw us ms m u.J.length hh (hm.le hl) hM.mi.head zm;have Fq:=λat_ s nx v w hh (hl:h.le hh) m4 hs hr hn hw=>Fp us ms u m at_ s nx v w hh (hu.le hl) (hm.le hl) ok hM m4 hs hr hn hw;have fW:=λat_ s a b c d hh (hl:h.le hh) hI hs m4 hx=>vU us ms u m at_ s a b c d hh (hu.le hl) (hm.le hl) hV hI hs sG m4 hx eU;obtain⟨p,cc,q,d,rfl,hcs,fM,jN,hl2⟩:=hu.form;obtain⟨p1,c1,p2,c2,p3,c3,p4,c4,rfl,k1,k2,k3,k4,k5,k6,k7,k8,d1,d2,d3,d4⟩:=hm.form;have fin:∀(H:Heap) (b c n:Nat) (KV:List dH) (okb:Bool),iB h H b c KV->n=KV.length->KV.length<=1000->j8 u m=(KV,okb)->h.le H/\∃ sl,Value.tuple #[.slice (some ⟨b,0,none⟩) n c,.bool okb]=.tuple #[sl,.bool (j8 u m).2]/\Row 3 lV H sl (j8 u m).1:=λH b c n KV okb a hn hl e=>by
  subst hn;rw[e];exact⟨a.le,_,rfl,a.yP hl⟩
 refine bS au func120 SM SN rfl ?_;conv=>whnf
 refine dI [] rfl (λb0 h1 uY e0 l1 g0=>?_);conv=>whnf
 have o0:cn 3 h1 (.slice (some ⟨b0,0,none⟩) 0 0) [] [b0]:=⟨by simp,.inr ⟨b0,0,[],_,rfl,by simp,by simpa using g0,by simp,rfl⟩⟩
 have a0:iB h h1 b0 0 []:=⟨l1,uY,[],o0,rfl,λi hi _=>by simp at hi⟩
 obtain⟨o1,mS⟩:=a0.in;refine kO mS (yU _ a0.hle) (λv h2 l2 hr=>?_);have a2:=a0.aG l2;refine hr.elim λq1 hr=>hr.elim λe1 hr=>hr.elim λq2 hr=>hr.elim λe2 hr=>?_;have hv:=hr.1;subst hv;have hI2:=hr.2;conv=>whnf
 refine fm [2,3,6,7,8,9] [2,3,7] (λy:Nat × Heap × (Nat × Nat × List dH) × (dH × Option Addr × Nat × Option Addr × Nat) × Bool=>y.1<=m.code.length/\iB h y.2.1 y.2.2.1.1 y.2.2.1.2.1 y.2.2.1.2.2/\y.2.2.1.2.2.length=y.1/\si (aW y.2.1 y.2.2.1.1) y.2.2.2.1.1 y.2.2.2.1.2.1 y.2.2.2.1.2.2.2.1 y.2.2.2.1.2.2.1 y.2.2.2.1.2.2.2.2/\uJ u.J.length m.locals y.2.2.2.1.1/\j8 u m=m9 u m (m.code.length-y.1) y.1 y.2.2.2.1.1 y.2.2.2.2 y.2.2.1.2.2) (λy=>m.code.length-y.1)
  (λy=>([.l 2 0,.l 3 0,.v (.slice (some ⟨y.2.2.1.1,0,none⟩) y.1 y.2.2.1.2.1),.l 7 0,.v (.bool y.2.2.2.2),.v (.int .i64 y.1)],
   [some [.slice p u.J.length cc,.slice q u.methods.length d],some [.int .i64 m.cls,.int .i64 m.eL,.slice p1 m.args.length c1,.int .i64 m.out,.int .i64 m.locals,.slice p2 m.code.length c2,.slice p3 m.aL.length c3,.slice p4 m.catches.length c4],some [.bool y.2.2.2.1.1.told,.slice y.2.2.2.1.2.1 y.2.2.2.1.1.locals.length y.2.2.2.1.2.2.1,.slice y.2.2.2.1.2.2.2.1 y.2.2.2.1.1.stack.length y.2.2.2.1.2.2.2.2]],y.2.1))
  (0,h2,(b0,0,[]),(jl m,q1,e1,q2,e2),true) ⟨by omega,a2,rfl,hI2,uK hM.mi.head zm,rfl⟩ rfl ?_
 rintro⟨i,h3,⟨b,c,out⟩,⟨s,q3,e3,q4,e4⟩,comes⟩ ⟨hi,a3,n3,OY,hs,heq⟩;simp only at hi a3 n3 OY hs heq ⊢;subst n3;conv=>whnf
 apply ax<;>intro g;all_goals conv=>whnf
 ·have Dy:out.length < m.code.length:=by omega
  have RM:out.length < m.aL.length:=by omega
  obtain⟨bs,os,lp,lc,kp,kc,N0,f1,f2,hJ⟩:=KU k7 RM;have Xt:iR m (out.length:Int)=m.aL[out.length]:=pI (by simpa using RM);have O0:=hM.val _ (List.getElem_mem RM);have Nq:=iI a3.le _ _ _ f1;have f2':=aX a3.le f2;have hJ3:=hJ.le a3.hle;have FZ:m.code.length-out.length=(m.code.length-(out.length+1))+1:=by omega
  rw[FZ]at heq;have uO:=λht=>BH (u:=u) (m:=m) (k:=m.code.length-(out.length+1)) (i:=out.length) (s:=s) (comes:=comes) (out:=out) ht;have Ft:=λht=>DA (u:=u) (m:=m) (k:=m.code.length-(out.length+1)) (i:=out.length) (s:=s) (comes:=comes) (out:=out) ht;rw[<-heq,Xt]at uO Ft;generalize m.aL[out.length]=r at Nq f2' hJ3 O0 uO Ft;obtain⟨o3,Xu⟩:=a3.in;have fI:=λht:r.told=true=>BB p u.J.length cc u.J s r q3 q4 lp kp e3 e4 lc kc h3 (hcs.le a3.le (λ_ _ hx=>hx.le a3.le)) ok (OY.le (gF h3 b)) (hJ3.le (gF h3 b)) (by have:=(O0 ht).loc;have:=hs.loc;omega) (λt ht=>(hs.fK t ht).2) (λt ht=>(hs.cA t ht).2) (λt h2=>((O0 ht).fK t h2).2) (λt h2=>((O0 ht).cA t h2).2);have qK:=λht:r.told=true=>yS r lp kp lc kc (aW h3 b) hJ3 (by have:=(O0 ht).loc;omega) (by have:=(O0 ht).len;omega);repeat' ((first|refine aO N0 ?_|refine ld f2' ?_|refine aq ?_|refine aj ?_|refine ptr ?_)<;>conv=>whnf)
  generalize hrt:r.told=rt at Nq f2' fI uO Ft qK O0 ⊢;cases rt
  ·have Ft:=Ft rfl;cases comes
   ·conv=>whnf
    exact fin h3 b c _ out false a3 rfl (by omega) Ft
   ·have nh:j8 u m=L5 u m (m.code.length-(out.length+1)) out.length s out:=Ft;have aH:=a3;have KW:=OY;have L6:=hs;conv=>whnf
    have hx:=hM.mi.code _ (List.getElem_mem Dy);have m4:0<=(out.length:Int)/\(out.length:Int) < m.code.length:=⟨by omega,g⟩
    have lT:fQ m (out.length:Int)=m.code[out.length]:=pI (by simpa using Dy);refine(iB.app aH rfl (zE.of KW) (by omega) rfl (Nat.le_of_ble_eq_true rfl) (λb5 c5 h5 a5 l5=>?_));have zh:eH u m (m.code.getD (out.length:Int).toNat dW):=by show eH u m (fQ m (out.length:Int));rw[lT];exact hx
    have dZ:=fW out.length s q3 q4 e3 e4 (aW h5 b5) a5.hle (KW.le l5) L6 m4 zh;have KO:eu u.J.length m.locals s (stepT u m (fQ m (out.length:Int)) s):=uN hV L6 (by rw[lT];exact hx);obtain⟨o5,qw⟩:=a5.in;unfold L5 at nh;change bI _ _ _ _ (λv h'=>(aW h5 b5).le h'/\uG h' v (stepT u m (fQ m (out.length:Int)) s))at dZ
    generalize stepT u m (fQ m (out.length:Int)) s=res at dZ KO nh;conv=>whnf
    refine kO qw dZ (λv h6 l6 hr=>?_);have a6:=a5.aG l6;cases res with
    | none =>
     refine hr.elim λw1 hr=>hr.elim λw2 hr=>hr.elim λw3 hr=>hr.elim λw4 hr=>hr.elim λw5 hr=>hr.elim λw6 hr=>hr.elim λw7 hv=>?_;subst hv;conv=>whnf
     exact fin h6 b5 c5 _ (out++[s]) false a6 (by simp) (by simp;omega) nh
    | some nx =>
     have O1:=(KO nx rfl).1;refine hr.elim λq7 hr=>hr.elim λe7 hr=>hr.elim λq8 hr=>hr.elim λe8 hr=>?_;have hv:=hr.1;subst hv;have L4:si (aW h6 b5) nx q7 q8 e7 e8:=hr.2;have fV:=Fq out.length s nx _ _ (aW h6 b5) a6.hle m4 L6 ⟨q3,e3,q4,e4,rfl,(KW.le l5).le (bT b5 l6)⟩ O1 ⟨q7,e7,q8,e8,rfl,L4⟩;simp only at nh;generalize pJ u m (out.length:Int) s nx=pt at fV nh;obtain⟨o6,Ah⟩:=a6.in;conv=>whnf
     refine kO Ah fV (λv h7 l7 hv=>?_);subst hv;have a7:=a6.aG l7;cases pt
     ·conv=>whnf
      exact fin h7 b5 c5 _ (out++[s]) false a7 (by simp) (by simp;omega) nh
     ·rw[if_pos rfl]at nh;obtain⟨bi,oi,vi,rO,w1,w2,w3⟩:=k6.get Dy;subst w2;have KN:=iI a7.le _ _ _ w1;have KX:=og m.code[out.length].kind m.code[out.length].a m.code[out.length].b h7;change Pure _ _ _ _ (.bool (kW m.code[out.length]))at KX
      rw[lT]at nh;generalize kW m.code[out.length]=en at KX nh;conv=>whnf
      repeat' ((first|refine aO rO ?_|refine dK KN ?_|refine ay KX ?_|refine aq ?_|refine aj ?_|refine ptr ?_)<;>conv=>whnf)
      exact dm (out.length+1,h7,(b5,c5,out++[s]),(nx,q7,e7,q8,e8),!en) ⟨by simp only;omega,a7,by simp,L4.le (bT b5 l7),O1,nh⟩ (by simp only;omega) rfl
  ·have uO:=uO rfl;have L6:=O0 rfl;have fI:=fI rfl;have qK:=qK rfl;cases comes
   ·have nh:j8 u m=L5 u m (m.code.length-(out.length+1)) out.length r out:=uO;conv=>whnf
    repeat' ((first|exact trivial|apply And.intro|refine aq ?_|refine aO N0 ?_|refine dK Nq ?_)<;>conv=>whnf)
    all_goals
     refine kO Xu qK (λv h4 l4 hr=>?_);have aH:=a3.aG l4;refine hr.elim λx1 hr=>hr.elim λy1 hr=>hr.elim λx2 hr=>hr.elim λy2 hr=>?_;have hv:=hr.1;subst hv;have KW:si (aW h4 b) r x1 x2 y1 y2:=hr.2;conv=>whnf
     have hx:=hM.mi.code _ (List.getElem_mem Dy);have m4:0<=(out.length:Int)/\(out.length:Int) < m.code.length:=⟨by omega,g⟩
     have lT:fQ m (out.length:Int)=m.code[out.length]:=pI (by simpa using Dy);refine(iB.app aH rfl (zE.of KW) (by omega) rfl (Nat.le_of_ble_eq_true rfl) (λb5 c5 h5 a5 l5=>?_));have zh:eH u m (m.code.getD (out.length:Int).toNat dW):=by show eH u m (fQ m (out.length:Int));rw[lT];exact hx
     have dZ:=fW out.length r x1 x2 y1 y2 (aW h5 b5) a5.hle (KW.le l5) L6 m4 zh;have KO:eu u.J.length m.locals r (stepT u m (fQ m (out.length:Int)) r):=uN hV L6 (by rw[lT];exact hx);obtain⟨o5,qw⟩:=a5.in;unfold L5 at nh;change bI _ _ _ _ (λv h'=>(aW h5 b5).le h'/\uG h' v (stepT u m (fQ m (out.length:Int)) r))at dZ
     generalize stepT u m (fQ m (out.length:Int)) r=res at dZ KO nh;conv=>whnf
     refine kO qw dZ (λv h6 l6 hr=>?_);have a6:=a5.aG l6;cases res with
     | none =>
      refine hr.elim λw1 hr=>hr.elim λw2 hr=>hr.elim λw3 hr=>hr.elim λw4 hr=>hr.elim λw5 hr=>hr.elim λw6 hr=>hr.elim λw7 hv=>?_;subst hv;conv=>whnf
      exact fin h6 b5 c5 _ (out++[r]) false a6 (by simp) (by simp;omega) nh
     | some nx =>
      have O1:=(KO nx rfl).1;refine hr.elim λq7 hr=>hr.elim λe7 hr=>hr.elim λq8 hr=>hr.elim λe8 hr=>?_;have hv:=hr.1;subst hv;have L4:si (aW h6 b5) nx q7 q8 e7 e8:=hr.2;have fV:=Fq out.length r nx _ _ (aW h6 b5) a6.hle m4 L6 ⟨x1,y1,x2,y2,rfl,(KW.le l5).le (bT b5 l6)⟩ O1 ⟨q7,e7,q8,e8,rfl,L4⟩;simp only at nh;generalize pJ u m (out.length:Int) r nx=pt at fV nh;obtain⟨o6,Ah⟩:=a6.in;conv=>whnf
      refine kO Ah fV (λv h7 l7 hv=>?_);subst hv;have a7:=a6.aG l7;cases pt
      ·conv=>whnf
       exact fin h7 b5 c5 _ (out++[r]) false a7 (by simp) (by simp;omega) nh
      ·rw[if_pos rfl]at nh;obtain⟨bi,oi,vi,rO,w1,w2,w3⟩:=k6.get Dy;subst w2;have KN:=iI a7.le _ _ _ w1;have KX:=og m.code[out.length].kind m.code[out.length].a m.code[out.length].b h7;change Pure _ _ _ _ (.bool (kW m.code[out.length]))at KX
       rw[lT]at nh;generalize kW m.code[out.length]=en at KX nh;conv=>whnf
       repeat' ((first|refine aO rO ?_|refine dK KN ?_|refine ay KX ?_|refine aq ?_|refine aj ?_|refine ptr ?_)<;>conv=>whnf)
       exact dm (out.length+1,h7,(b5,c5,out++[r]),(nx,q7,e7,q8,e8),!en) ⟨by simp only;omega,a7,by simp,L4.le (bT b5 l7),O1,nh⟩ (by simp only;omega) rfl
   ·generalize Cb u.J s r=inb at fI uO;cases inb
    ·conv=>whnf
     repeat' ((first|exact trivial|exact fin h3 b c _ out false a3 rfl (by omega) uO|apply And.intro|refine aq ?_|refine aO N0 ?_|refine dK Nq ?_|refine aT fI ?_)<;>conv=>whnf)
    ·have nh:j8 u m=L5 u m (m.code.length-(out.length+1)) out.length r out:=uO;conv=>whnf
     repeat' ((first|exact trivial|apply And.intro|refine aq ?_|refine aO N0 ?_|refine dK Nq ?_|refine aT fI ?_)<;>conv=>whnf)
     all_goals
      refine kO Xu qK (λv h4 l4 hr=>?_);have aH:=a3.aG l4;refine hr.elim λx1 hr=>hr.elim λy1 hr=>hr.elim λx2 hr=>hr.elim λy2 hr=>?_;have hv:=hr.1;subst hv;have KW:si (aW h4 b) r x1 x2 y1 y2:=hr.2;conv=>whnf
      have hx:=hM.mi.code _ (List.getElem_mem Dy);have m4:0<=(out.length:Int)/\(out.length:Int) < m.code.length:=⟨by omega,g⟩
      have lT:fQ m (out.length:Int)=m.code[out.length]:=pI (by simpa using Dy);refine(iB.app aH rfl (zE.of KW) (by omega) rfl (Nat.le_of_ble_eq_true rfl) (λb5 c5 h5 a5 l5=>?_));have zh:eH u m (m.code.getD (out.length:Int).toNat dW):=by show eH u m (fQ m (out.length:Int));rw[lT];exact hx
      have dZ:=fW out.length r x1 x2 y1 y2 (aW h5 b5) a5.hle (KW.le l5) L6 m4 zh;have KO:eu u.J.length m.locals r (stepT u m (fQ m (out.length:Int)) r):=uN hV L6 (by rw[lT];exact hx);obtain⟨o5,qw⟩:=a5.in;unfold L5 at nh;change bI _ _ _ _ (λv h'=>(aW h5 b5).le h'/\uG h' v (stepT u m (fQ m (out.length:Int)) r))at dZ
      generalize stepT u m (fQ m (out.length:Int)) r=res at dZ KO nh;conv=>whnf
      refine kO qw dZ (λv h6 l6 hr=>?_);have a6:=a5.aG l6;cases res with
      | none =>
       refine hr.elim λw1 hr=>hr.elim λw2 hr=>hr.elim λw3 hr=>hr.elim λw4 hr=>hr.elim λw5 hr=>hr.elim λw6 hr=>hr.elim λw7 hv=>?_;subst hv;conv=>whnf
       exact fin h6 b5 c5 _ (out++[r]) false a6 (by simp) (by simp;omega) nh
      | some nx =>
       have O1:=(KO nx rfl).1;refine hr.elim λq7 hr=>hr.elim λe7 hr=>hr.elim λq8 hr=>hr.elim λe8 hr=>?_;have hv:=hr.1;subst hv;have L4:si (aW h6 b5) nx q7 q8 e7 e8:=hr.2;have fV:=Fq out.length r nx _ _ (aW h6 b5) a6.hle m4 L6 ⟨x1,y1,x2,y2,rfl,(KW.le l5).le (bT b5 l6)⟩ O1 ⟨q7,e7,q8,e8,rfl,L4⟩;simp only at nh;generalize pJ u m (out.length:Int) r nx=pt at fV nh;obtain⟨o6,Ah⟩:=a6.in;conv=>whnf
       refine kO Ah fV (λv h7 l7 hv=>?_);subst hv;have a7:=a6.aG l7;cases pt
       ·conv=>whnf
        exact fin h7 b5 c5 _ (out++[r]) false a7 (by simp) (by simp;omega) nh
       ·rw[if_pos rfl]at nh;obtain⟨bi,oi,vi,rO,w1,w2,w3⟩:=k6.get Dy;subst w2;have KN:=iI a7.le _ _ _ w1;have KX:=og m.code[out.length].kind m.code[out.length].a m.code[out.length].b h7;change Pure _ _ _ _ (.bool (kW m.code[out.length]))at KX
        rw[lT]at nh;generalize kW m.code[out.length]=en at KX nh;conv=>whnf
        repeat' ((first|refine aO rO ?_|refine dK KN ?_|refine ay KX ?_|refine aq ?_|refine aj ?_|refine ptr ?_)<;>conv=>whnf)
        exact dm (out.length+1,h7,(b5,c5,out++[r]),(nx,q7,e7,q8,e8),!en) ⟨by simp only;omega,a7,by simp,L4.le (bT b5 l7),O1,nh⟩ (by simp only;omega) rfl
 ·have he:out.length=m.code.length:=by omega
  rw[he,Nat.sub_self]at heq;exact fin h3 b c _ out _ a3 rfl (by omega) heq
def Bytes (h:Heap) (v:Value) (n:Nat):Prop:=∃ p c,v=.slice p n c/\n<=c/\(n=0\/∃ b off,p=some ⟨b,off,none⟩/\∀ i,i < n->∃ x:Int,rd h b (off+i)=some (.int .u8 x)/\0<=x/\x < 256)
theorem Heap.set_set (h:Heap) (b:Nat) (o o':Obj):(Heap.set h b o).set b o'=Heap.set h b o':=by
 funext c;simp only[Heap.set];split<;>rfl
theorem rd_some {h:Heap} {b off:Nat} {v:Value} (hr:rd h b off=some v):h b≠none:=by
 intro hn;simp[rd,hn]at hr
theorem Bytes.set {h:Heap} {v:Value} {n bb:Nat} (hB:Bytes h v n) (rG:h bb=none) (o:Obj):Bytes (h.set bb o) v n:=by
 obtain⟨p,c,rfl,hc,hB⟩:=hB;refine⟨p,c,rfl,hc,hB.imp id ?_⟩;rintro⟨b,off,rfl,hx⟩;refine⟨b,off,rfl,λi hi=>?_⟩;obtain⟨x,h1,h2⟩:=hx i hi;have cD:b≠bb:=by rintro rfl;exact rd_some h1 rG
 exact⟨x,by rw[mX cD];exact h1,h2⟩
def cN (h:Heap) (bb:Nat) (vb:Value) (p:Int):Heap:=h.set bb (.cells #[vb,.int .i64 p] 98)
theorem Gs {a b:Int} (h:0<=a) (U:0 < b):0<=a.tmod b/\a.tmod b < b:=by
 rw[Int.tmod_eq_emod_of_nonneg h];exact⟨Int.emod_nonneg _ (by omega),Int.emod_lt_of_pos _ U⟩
theorem xp {a b:Int} (h:0<=a) (U:0 < b):0<=a.tdiv b/\a.tdiv b<=a:=by
 rw[Int.tdiv_eq_ediv_of_nonneg h];exact⟨Int.ediv_nonneg h (by omega),Int.ediv_le_self _ h⟩
theorem Fu {a b:Int} (ha:0<=a) (ha1:a < 9223372036854775808) (U:0<=b) (gI:b < 9223372036854775808):0<=v8 .xor .i64 a b:=by
 unfold v8;simp only;have h:(BitVec.ofInt IntKind.i64.bits a ^^^ BitVec.ofInt IntKind.i64.bits b).toNat < 2 ^ 63:=by
  rw[BitVec.toNat_xor];have e:∀ z:Int,0<=z->z < 9223372036854775808->(BitVec.ofInt IntKind.i64.bits z).toNat < 2 ^ 63:=by
   intro z h0 h1;rw[BitVec.toNat_ofInt];show(z % ((2 ^ 64:Nat):Int)).toNat < 2 ^ 63;rw[Int.emod_eq_of_lt h0 (by omega)];omega
  exact Nat.xor_lt_two_pow (e a ha ha1) (e b U gI)
 rw[wrap_i64 (by omega) (by omega)];omega
theorem Rn (bb n:Nat) (vb:Value) (p k:Int) (h:Heap) (rG:h bb=none) (hB:Bytes h vb n) (hp:0<=p) (zD:p<=1000000000000) (hn:n<=1000000000000) :
  bI prog 36 [.pointer (some ⟨bb,0,none⟩),.int .i64 k] (cN h bb vb p) λv h'=>∃ x,v=.int .i64 x/\0<=x/\(1<=k->x < k)/\(k < 1->x=0)/\h'=cN h bb vb (p+1):=by
 refine bS au func36 F36 Zy rfl ?_;have U:(cN h bb vb p) bb=some (.cells #[vb,.int .i64 p] 98):=by simp[cN,Heap.set]
 have hB':=hB.set rG (.cells #[vb,.int .i64 p] 98);change Bytes (cN h bb vb p) vb n at hB'
 have jO:∀ q,(cN h bb vb p).set bb (.cells #[vb,.int .i64 q] 98)=cN h bb vb q:=λq=>Heap.set_set _ _ _ _;have hR:=jO (p+1);clear jO hB rG;generalize cN h bb vb (p+1)=zw at *;generalize cN h bb vb p=h at *;subst hR;have hB:=hB';clear hB';obtain⟨q,c,rfl,_,hB⟩:=hB;conv=>whnf
 refine ld (v:=.int .i64 p) (by simp[rd,U]) ?_;conv=>whnf
 refine aj ?_;conv=>whnf
 refine st U (by simp) ?_;conv=>whnf
 apply ax<;>intro h1;all_goals conv=>whnf
 ·exact⟨0,rfl,by omega,by omega,by omega,rfl⟩
 refine ld (v:=.slice q n c) (by simp[rd,Heap.set,ep,Ly]) ?_;conv=>whnf
 apply ax<;>intro h2;all_goals conv=>whnf
 ·exact⟨0,rfl,by omega,by omega,by omega,rfl⟩
 have s9:rd (h.set bb (.cells (ep #[Value.slice q n c,.int .i64 p].toList (0+1) [.int .i64 (p+1)]).toArray 98)) bb (0+1)=some (.int .i64 (p+1)):=by simp[rd,Heap.set,ep,Ly]
 have gD:rd (h.set bb (.cells (ep #[Value.slice q n c,.int .i64 p].toList (0+1) [.int .i64 (p+1)]).toArray 98)) bb 0=some (.slice q n c):=by simp[rd,Heap.set,ep,Ly]
 rcases hB with hB|⟨b,off,rfl,hB⟩
 ·exact absurd (by omega) h2
 have IC:∀ i,i < n->∃ x:Int,rd (h.set bb (.cells (ep #[Value.slice (some ⟨b,off,none⟩) n c,.int .i64 p].toList (0+1) [.int .i64 (p+1)]).toArray 98)) b (off+i)=some (.int .u8 x)/\0<=x/\x < 256:=by
  intro i hi;obtain⟨x,h3,h4⟩:=hB i hi;have cD:b≠bb:=by
   intro he;subst he;simp only[rd,U]at h3;match he:off+i,h3 with
   | 0,h3=>simp at h3
   | 1,h3=>simp at h3
   | m+2,h3=>simp at h3
  exact⟨x,by rw[mX cD];exact h3,h4⟩
 have AU:∀ i:Int,0<=i->i < n->∃ x:Int,rd (h.set bb (.cells (ep #[Value.slice (some ⟨b,off,none⟩) n c,.int .i64 p].toList (0+1) [.int .i64 (p+1)]).toArray 98)) b (off+i.toNat*1)=some (.int .u8 x)/\0<=x/\x < 256:=by
  intro i h4 h5;rw[Nat.mul_one];exact IC i.toNat (by omega)
 have eZ:h.set bb (.cells (ep #[Value.slice (some ⟨b,off,none⟩) n c,.int .i64 p].toList (0+1) [.int .i64 (p+1)]).toArray 98)=h.set bb (.cells #[.slice (some ⟨b,off,none⟩) n c,.int .i64 (p+1)] 98):=rfl;refine ld s9 ?_;conv=>whnf
 refine aj ?_;conv=>whnf
 refine ld gD ?_;conv=>whnf
 apply ax<;>intro h3;all_goals conv=>whnf
 ·refine ld gD ?_;conv=>whnf
  refine aq ?_;conv=>whnf
  obtain⟨x,hx,sr,FN⟩:=AU (p+1-1) (by omega) (by omega);refine ptr ?_;conv=>whnf
  refine ld hx ?_;conv=>whnf
  refine aj ?_;conv=>whnf
  refine aq ?_;conv=>whnf
  have ht:x.tmod k=x % k:=Int.tmod_eq_emod_of_nonneg sr;exact⟨x.tmod k,rfl,by rw[ht];exact Int.emod_nonneg _ (by omega),λh=>by rw[ht];exact Int.emod_lt_of_pos _ (by omega),by omega,rfl⟩
 ·have t1:=Gs (a:=p+1-1) (b:=n) (by omega) (by omega);have t2:=Gs (a:=(p+1-1)*7+3) (b:=n) (by omega) (by omega);have t3:=xp (a:=p+1-1) (b:=n) (by omega) (by omega);obtain⟨x,hx,sr,FN⟩:=AU _ t1.1 t1.2;obtain⟨y,hy,BT,hy1⟩:=AU _ t2.1 t2.2;have t4:=xp (a:=x*131+y*1117+(p+1-1)*29+(p+1-1).tdiv n*53) (b:=64) (by omega) (by omega);repeat' ((first
   | refine ld gD ?_
   | refine ld s9 ?_
   | refine aj ?_
   | refine aq ?_
   | refine ptr ?_
   | refine ld hx ?_
   | refine ld hy ?_)<;>conv=>whnf)
  have ht:∀ z:Int,0<=z->z.tmod k=z % k:=λz hz=>Int.tmod_eq_emod_of_nonneg hz;have hz:0<=v8 .xor .i64 (x*131+y*1117+(p+1-1)*29+(p+1-1).tdiv n*53) ((x*131+y*1117+(p+1-1)*29+(p+1-1).tdiv n*53).tdiv 64):=by
   refine Fu (by omega) (by omega) ?_ ?_
   ·exact(xp (by omega) (by omega)).1
   ·have:=(xp (a:=x*131+y*1117+(p+1-1)*29+(p+1-1).tdiv n*53) (b:=64) (by omega) (by omega)).2;omega
  exact⟨_,rfl,by rw[ht _ hz];exact Int.emod_nonneg _ (by omega),λh=>by rw[ht _ hz];exact Int.emod_lt_of_pos _ (by omega),by omega,rfl⟩
theorem nG (g:Heap) (bb:Nat) (vb:Value) (p:Int):∃ o,cN g bb vb p bb=some o:=⟨_,by unfold cN;exact cZ _ _ _⟩
theorem eK {g:Heap} {bb b:Nat} {vb:Value} {p:Int} (h:b≠bb):cN g bb vb p b=g b:=by unfold cN;simp[Heap.set,h]
theorem uP {g:Heap} {bb:Nat} {vb:Value} {p:Int} (U:g bb=none):aW (cN g bb vb p) bb=g:=by
 funext x
 unfold aW;by_cases e:x=bb
 ·rw[if_pos e,e,U]
 ·rw[if_neg e,eK e]
theorem mP {h:Heap} {g:Heap} {bb:Nat} {vb:Value} {p:Int} (U:h bb=cN g bb vb p bb):h=cN (aW h bb) bb vb p:=by
 funext x
 by_cases e:x=bb
 ·rw[e,U];unfold cN;rw[cZ,cZ]
 ·rw[eK e];unfold aW;rw[if_neg e]
theorem bh {g:Heap} {bb:Nat} {vb:Value} {p:Int} (U:g bb=none):g.le (cN g bb vb p):=Heap.aM (Heap.le_refl g) U
theorem Bytes.le {h h':Heap} (hl:h.le h') {v:Value} {n:Nat} (hB:Bytes h v n):Bytes h' v n:=by
 obtain⟨p,c,rfl,hc,hB⟩:=hB;refine⟨p,c,rfl,hc,hB.imp id ?_⟩;rintro⟨b,off,rfl,hx⟩;refine⟨b,off,rfl,λi hi=>?_⟩;obtain⟨x,h1,h2⟩:=hx i hi;exact⟨x,aX hl h1,h2⟩
structure bD (g:Heap) (bb:Nat) (vb:Value) (p:Int):Prop where
 free:g bb=none
 bytes:∃ n,Bytes g vb n/\n<=2000
 lo:0<=p
theorem bD.to {g g':Heap} {bb:Nat} {vb:Value} {p q:Int} (r:bD g bb vb p) (hl:g.le g') (U:g' bb=none) (hq:p<=q):bD g' bb vb q :=
 ⟨U,by obtain⟨n,h1,h2⟩:=r.bytes;exact⟨n,h1.le hl,h2⟩,by have:=r.lo;omega⟩
theorem bD.on {g:Heap} {bb:Nat} {vb:Value} {p q:Int} (r:bD g bb vb p) (hq:p<=q):bD g bb vb q:=r.to (Heap.le_refl g) r.free hq
def Dr (P:Program) (f:FuncId) (args:List Value) (g:Heap) (bb:Nat) (vb:Value) (p k:Int) (A:Heap->Value->Prop):Prop :=
 bI P f args (cN g bb vb p) λv h'=>∃ g' q,h'=cN g' bb vb q/\g.le g'/\g' bb=none/\p<=q/\q<=p+k/\A g' v
theorem iC {P:Program} {f:FuncId} {args:List Value} {g:Heap} {bb:Nat} {vb:Value} {p k:Int} {A:Heap->Value->Prop} {K:Value->Heap->Prop} {E:List PanicEntry->Heap->Prop} (r:bD g bb vb p) (hc:Dr P f args g bb vb p k A)
  (hk:∀ v g' q,g.le g'->bD g' bb vb q->p<=q->q<=p+k->A g' v->K v (cN g' bb vb q)):Go.Vc.Call P f args (cN g bb vb p) K E :=
 aD hc λv h' hh=>by
  obtain⟨g',q,rfl,hl,U,h1,h2,hA⟩:=hh;exact hk v g' q hl (r.to hl U h1) h1 h2 hA
theorem bF {g:Heap} {bb:Nat} {vb:Value} {p k:Int} {K:Value->Heap->Prop} {E:List PanicEntry->Heap->Prop} (r:bD g bb vb p) (hp:p<=1000000000)
  (hk:∀ x,0<=x->(1<=k->x < k)->(k < 1->x=0)->bD g bb vb (p+1)->K (.int .i64 x) (cN g bb vb (p+1))):Go.Vc.Call prog 36 [.pointer (some ⟨bb,0,none⟩),.int .i64 k] (cN g bb vb p) K E:=by
 obtain⟨n,hB,hn⟩:=r.bytes;refine aD (Rn bb n vb p k g r.free hB r.lo (by omega) (by omega)) ?_;rintro v h' ⟨x,rfl,x0,x1,x2,rfl⟩;exact hk x x0 x1 x2 (r.on (by omega))
theorem Ns {P:Program} {f:FuncId} {args:List Value} {g:Heap} {bb:Nat} {vb:Value} {p:Int} {R:Value->Heap->Prop} {K:Value->Heap->Prop} {E:List PanicEntry->Heap->Prop} (r:bD g bb vb p) (hc:bI P f args g λv g'=>g.le g'/\R v g')
  (hk:∀ v g',g.le g'->bD g' bb vb p->R v g'->K v (cN g' bb vb p)):Go.Vc.Call P f args (cN g bb vb p) K E:=by
 obtain⟨o,ho⟩:=nG g bb vb p;have oQ:bI P f args (aW (cN g bb vb p) bb) λv g'=>g.le g'/\R v g':=by rw[uP r.free];exact hc
 refine aD (oh ho oQ) λv h' hh=>?_;rw[mP hh.1];exact hk v _ hh.2.1 (r.to hh.2.1 (by simp[aW]) (Int.le_refl _)) hh.2.2
theorem O2 {P:Program} {f:FuncId} {args:List Value} {g:Heap} {bb:Nat} {vb:Value} {p:Int} {R:Value->Heap->Prop} {K:Value->Heap->Prop} {E:List PanicEntry->Heap->Prop} (r:bD g bb vb p) (hc:bI P f args g λv g'=>g.le g'/\R v g')
  (hk:∀ v g',g.le g'->bD g' bb vb p->R v g'->K v (cN g' bb vb p)):Go.Vc.jA P f args (cN g bb vb p) K E:=by
 obtain⟨o,ho⟩:=nG g bb vb p;have oQ:bI P f args (aW (cN g bb vb p) bb) λv g'=>g.le g'/\R v g':=by rw[uP r.free];exact hc
 refine cE (oh ho oQ) λv h' hh=>⟨?_,?_⟩
 ·refine BC (b:=bb) ?_ hh.1;rw[uP r.free];exact hh.2.1
 ·rw[mP hh.1];exact hk v _ hh.2.1 (r.to hh.2.1 (by simp[aW]) (Int.le_refl _)) hh.2.2
theorem Ro {P:Program} {f:FuncId} {args:List Value} {g:Heap} {bb:Nat} {vb:Value} {p:Int} {x:Value} {K:Value->Heap->Prop} {E:List PanicEntry->Heap->Prop} (r:bD g bb vb p) (hc:Pure P f args g x) (hk:K x (cN g bb vb p)):Go.Vc.Call P f args (cN g bb vb p) K E:=by
 obtain⟨o,ho⟩:=nG g bb vb p;have oQ:bI P f args (aW (cN g bb vb p) bb) λv g'=>v=x/\g'=g:=by rw[uP r.free];exact hc
 refine aD (oh ho oQ) λv h' hh=>?_;rw[mP hh.1,hh.2.2,hh.2.1];exact hk
theorem kP {g:Heap} {bb:Nat} {vb:Value} {p:Int} {cs:List Value} {t:TypeId} {K:Nat->Heap->Prop} (jt:List Value) (r:bD g bb vb p) (hcs:cs=jt) (hk:∀ b g',g b=none->b≠bb->g.le g'->bD g' bb vb p->g' b=some (.cells jt.toArray t (0,0))->K b (cN g' bb vb p)):Ig (cN g bb vb p) cs t K:=by
 subst hcs;refine new λb U=>?_;have cD:b≠bb:=by
  rintro rfl;obtain⟨o,ho⟩:=nG g b vb p;rw[ho]at U;cases U
 rw[eK cD]at U;have he:(cN g bb vb p).set b (.cells cs.toArray t)=cN (g.set b (.cells cs.toArray t)) bb vb p:=by
  funext x
  unfold cN;simp only[Heap.set];by_cases e1:x=b
  ·have:x≠bb:=by rw[e1];exact cD
   simp[e1,cD]
  ·simp[e1]
 rw[he];have hl:g.le (g.set b (.cells cs.toArray t)):=Heap.aM (Heap.le_refl g) U;exact hk b _ U cD hl (r.to hl (by simp[Heap.set,λe=>cD (Eq.symm e),r.free];intro e;exact absurd e.symm cD) (Int.le_refl _)) (cZ _ _ _)
theorem cn.cN {sz:Nat} {g:Heap} {bb:Nat} {vb:Value} {p:Int} {v:Value} {xs:List (List Value)} {B:List Nat} (U:g bb=none) (ho:cn sz g v xs B):cn sz (Go.Proofs.cN g bb vb p) v xs B:=ho.aG (cC.of_le (bh U) _)
theorem cn.Xv {sz:Nat} {h:Heap} {bb:Nat} {v:Value} {xs:List (List Value)} {B:List Nat} (U:bb ∉ B) (ho:cn sz h v xs B):cn sz (aW h bb) v xs B:=ho.aG λb hm o hx=>by
 have:b≠bb:=by rintro rfl;exact U hm
 unfold aW;rw[if_neg this];exact hx
theorem pK {bytes sz:Nat} {zero:List Value} {el:TypeId} {g0 g:Heap} {bb:Nat} {vb:Value} {q:Int} {p:Option Addr} {n cap:Nat} {xs ys:List (List Value)} {B:List Nat} {m:Nat} {vs:List Value} {K:Value->Heap->Prop} {q0:Int}
  (r0:bD g0 bb vb q0) (r:bD g bb vb q) (ho:cn sz g (.slice p n cap) xs B) (hB:∀ b∈B,g0 b=none) (hle:g0.le g) (iT:vs=ys.flatten) (hm:m=ys.length) (LG:∀ y∈ys,y.length=sz) (hc:dG vs=true) (hz:zero.length=sz)
  (gI:(xs.length+ys.length)*bytes<=2 ^ 44) (eX:xs.length+ys.length<=2 ^ 44)
  (hk:∀ v' g' B',g0.le g'->bD g' bb vb q->cn sz g' v' (xs++ys) B'->(∀ b∈B',g0 b=none)->(∀ b,b ∉ B->g b≠none->g' b=g b)->(∀ b∈B',b∈B\/g b=none)->K v' (cN g' bb vb q)):App bytes sz zero el (cN g bb vb q) p n cap m vs K:=by
 have O3:bb ∉ B:=λhx=>by obtain⟨o,h1⟩:=ho.in bb hx;rw[r.free]at h1;cases h1
 have h0b:g0 bb=none:=by
  cases hx:g0 bb with
  | none=>rfl
  | some o=>have:=hle bb o hx;rw[r.free]at this;cases this
 refine cY (h0:=g0) (ho.cN r.free) hB (Heap.le_trans hle (bh r.free)) iT hm LG hc hz gI eX ?_;intro v' h' B' k1 k2 k3 k4 k5;obtain⟨o,KY⟩:=nG g bb vb q;have rG:h' bb=cN g bb vb q bb:=k4 bb O3 (by rw[KY];simp);have KZ:bb ∉ B':=λhx=>by
  rcases k5 bb hx with h1|h1
  ·exact O3 h1
  ·rw[KY]at h1;cases h1
 rw[mP rG];have hl:g0.le (aW h' bb):=uL k1 h0b;have other:∀ b,b ∉ B->g b≠none->aW h' bb b=g b:=λb U hn=>by
  have cD:b≠bb:=by rintro rfl;exact hn r.free
  unfold aW;rw[if_neg cD,k4 b U (by rw[eK cD];exact hn),eK cD]
 refine hk v' _ B' hl ⟨by simp[aW],by obtain⟨n,e1,e2⟩:=r0.bytes;exact⟨n,e1.le hl,e2⟩,r.lo⟩ (k2.Xv KZ) k3 other λb U=>?_
 ·rcases k5 b U with h1|h1
  ·exact .inl h1
  ·have cD:b≠bb:=by rintro rfl;rw[KY]at h1;cases h1
   rw[eK cD]at h1;exact .inr h1
theorem HP {g:Heap} {bb:Nat} {vb:Value} {p:Int} (r:bD g bb vb p) (hp:p<=100000000) :
  Dr prog 132 [.pointer (some ⟨bb,0,none⟩)] g bb vb p 2 λg' v=>g'=g/\∃ x:Int,v=.int .i64 x/\-128<=x/\x<=127:=by
 refine bS au func132 S3 S4 rfl ?_;conv=>whnf
 refine bF r (by omega) (λx x0 x1 x2 r1=>?_);conv=>whnf
 apply ax<;>intro h1;all_goals conv=>whnf
 ·refine bF r1 (by omega) (λy y0 y1 y2 r2=>?_);have hy:y=0\/y=1\/y=2\/y=3\/y=4\/y=5:=by omega
  rcases hy with rfl|rfl|rfl|rfl|rfl|rfl;all_goals
   conv=>whnf
   refine aq ?_;conv=>whnf
   exact⟨_,_,rfl,Heap.le_refl g,r2.free,by omega,by omega,⟨rfl,_,rfl,by omega,by omega⟩⟩
 ·refine bF r1 (by omega) (λy y0 y1 y2 r2=>?_);conv=>whnf
  refine aj ?_;conv=>whnf
  exact⟨_,_,rfl,Heap.le_refl g,r2.free,by omega,by omega,⟨rfl,_,rfl,by omega,by omega⟩⟩
theorem pL {g:Heap} {bb:Nat} {vb:Value} {p:Int} (n:Int) (r:bD g bb vb p) (hp:p<=100000000) (hn:1<=n/\n<=1000) :
  Dr prog 131 [.pointer (some ⟨bb,0,none⟩),.int .i64 n] g bb vb p 2 λg' v=>g'=g/\∃ t:Int,v=.int .i64 t/\cR n t:=by
 refine bS au func131 SZ S0 rfl ?_;conv=>whnf
 refine bF r (by omega) (λx x0 x1 x2 r1=>?_);conv=>whnf
 repeat' ((first|exact⟨_,_,rfl,Heap.le_refl g,r.free,by omega,by omega,⟨rfl,_,rfl,by unfold cR;omega⟩⟩|apply ax<;>intro _|refine aj ?_|refine bF r1 (by omega) (λy y0 y1 y2 r2=>?_))<;>conv=>whnf)
theorem rP {g:Heap} {bb:Nat} {vb:Value} {p:Int} (n:Int) (r:bD g bb vb p) (hp:p<=90000000) (hn:1<=n/\n<=1000) :
  Dr prog 75 [.pointer (some ⟨bb,0,none⟩),.int .i64 n] g bb vb p 4 λg' v=>g'=g/\∃ t:Int,v=.int .i64 t/\-1<=t/\t<=8+n:=by
 refine bS au func75 F75 ZX rfl ?_;conv=>whnf
 refine bF r (by omega) (λx x0 x1 x2 r1=>?_);conv=>whnf
 have field:∀ q,bD g bb vb q->q<=100000000->_:=λq rq hq=>pL n rq hq hn;repeat' ((first|exact⟨_,_,rfl,Heap.le_refl g,r.free,by omega,by omega,⟨rfl,_,rfl,by omega⟩⟩|apply ax<;>intro _)<;>conv=>whnf)
 ·refine bF r1 (by omega) (λy y0 y1 y2 r2=>?_);conv=>whnf
  apply ax<;>intro _;all_goals conv=>whnf
  ·refine aj ?_;conv=>whnf
   refine bF r2 (by omega) (λz z0 z1 z2 r3=>?_);have hz:z=0\/z=1\/z=2\/z=3:=by omega
   rcases hz with rfl|rfl|rfl|rfl;all_goals
    conv=>whnf
    refine aq ?_;conv=>whnf
    exact⟨_,_,rfl,Heap.le_refl g,r3.free,by omega,by omega,⟨rfl,_,rfl,by omega,by omega⟩⟩
  ·refine iC r2 (field _ r2 (by omega)) (λv g' q hl r3 h1 h2 hA=>?_);obtain⟨rfl,t,rfl,ht⟩:=hA;conv=>whnf
   exact⟨_,_,rfl,Heap.le_refl _,r3.free,by omega,by omega,⟨rfl,_,rfl,by unfold cR at ht;omega⟩⟩
 ·refine iC r1 (field _ r1 (by omega)) (λv g' q hl r3 h1 h2 hA=>?_);obtain⟨rfl,t,rfl,ht⟩:=hA;conv=>whnf
  exact⟨_,_,rfl,Heap.le_refl _,r3.free,by omega,by omega,⟨rfl,_,rfl,by unfold cR at ht;omega⟩⟩
def ox (h:Heap) (x:List Value) (c:dR) (B:List Nat):Prop:=∃ v,x=[.int .i64 c.bN,v]/\dV h v c.fields B
theorem sC:Kept ox:=λ_ _ _ _ _ hk ho=>by
 obtain⟨v,h1,h2⟩:=ho;exact⟨v,h1,h2.aG hk⟩
theorem inK:MG ox:=λ_ _ _ _ ho=>by
 obtain⟨v,h1,h2⟩:=ho;exact h2.in
theorem Nt {α:Type} {R:Heap->List Value->α->List Nat->Prop} (hR:Kept R) (hI:MG R) {bytes sz:Nat} {zero:List Value} {el:TypeId} {g0 g:Heap} {bb:Nat} {vb:Value} {q0 q:Int} {p:Option Addr} {n cap:Nat} {l:List α} {a:α} {B Bi:List Nat} {m:Nat} {vs:List Value} {K:Value->Heap->Prop}
  (r0:bD g0 bb vb q0) (r:bD g bb vb q) (ho:eE R sz g (.slice p n cap) l B) (hy:R g vs a Bi) (hnd:Nd (B++Bi)) (hB:∀ b∈B++Bi,g0 b=none) (hle:g0.le g) (hm:m=1) (LG:vs.length=sz) (hc:dG vs=true) (hz:zero.length=sz)
  (gI:(l.length+1)*bytes<=2 ^ 44) (eX:l.length+1<=2 ^ 44)
  (hk:∀ v' g' B',g0.le g'->bD g' bb vb q->eE R sz g' v' (l++[a]) B'->Nd B'->(∀ b∈B',g0 b=none)->Ev g g' (B++Bi) B'->K v' (cN g' bb vb q)):App bytes sz zero el (cN g bb vb q) p n cap m vs K:=by
 have h0b:g0 bb=none:=by
  cases hx:g0 bb with
  | none=>rfl
  | some o=>have:=hle bb o hx;rw[r.free]at this;cases this
 have fI:∀ b∈B++Bi,∃ o,g b=some o:=λb U=>(List.mem_append.1 U).elim (ho.in hI b) (hI _ _ _ _ hy b);have O3:bb ∉ B++Bi:=λhx=>by obtain⟨o,h1⟩:=fI bb hx;rw[r.free]at h1;cases h1
 have Iq:=bh (vb:=vb) (p:=q) r.free;refine nU hR hI (h0:=g0) (ho.aG hR (cC.of_le Iq _)) (hR _ _ _ _ _ (cC.of_le Iq _) hy) hnd hB (Heap.le_trans hle Iq) hm LG hc hz gI eX ?_;intro v' h' B' k1 k2 k3 k4 k5;obtain⟨o,KY⟩:=nG g bb vb q;have rG:h' bb=cN g bb vb q bb:=k5.ic bb (by rw[KY];simp) O3;have KZ:bb ∉ B':=λhx=>by
  rcases k5.new bb hx with h1|h1
  ·exact O3 h1
  ·rw[KY]at h1;cases h1
 have ne:∀ b,h' b≠none->b≠bb->aW h' bb b=h' b:=λb _ cD=>by unfold aW;rw[if_neg cD]
 have kp:cC h' (aW h' bb) B':=λb U o ho=>by
  have:b≠bb:=by rintro rfl;exact KZ U
  unfold aW;rw[if_neg this];exact ho
 rw[mP rG];have hl:g0.le (aW h' bb):=uL k1 h0b;refine hk v' _ B' hl ⟨by simp[aW],by obtain⟨n,e1,e2⟩:=r0.bytes;exact⟨n,e1.le hl,e2⟩,r.lo⟩ (k2.aG hR kp) k3 k4 ⟨λb U hs=>?_,λb U=>?_⟩
 ·have cD:b≠bb:=by rintro rfl;exact U r.free
  unfold aW;rw[if_neg cD,k5.ic b (by rw[eK cD];exact U) hs,eK cD]
 ·rcases k5.new b U with h1|h1
  ·exact .inl h1
  ·have cD:b≠bb:=by rintro rfl;rw[KY]at h1;cases h1
   rw[eK cD]at h1;exact .inr h1
theorem xq {el:TypeId} {g0 g:Heap} {bb:Nat} {vb:Value} {q0 q:Int} {p:Option Addr} {n c m:Nat} {l k:List Int} {B:List Nat} {K:Value->Heap->Prop} (r0:bD g0 bb vb q0) (r:bD g bb vb q) (ho:dV g (.slice p n c) l B) (hB:∀ b∈B,g0 b=none) (hl:g0.le g) (hm:m=k.length) (hs:l.length+k.length<=1000000)
  (hk:∀ p' c' g' B',g0.le g'->bD g' bb vb q->dV g' (.slice p' (l++k).length c') (l++k) B'->(∀ b∈B',g0 b=none)->Ev g g' B B'->K (.slice p' (l++k).length c') (cN g' bb vb q)):App 8 1 [.int .i64 0] el (cN g bb vb q) p n c m (k.map (Value.int .i64)) K:=by
 refine pK r0 r (xs:=l.map bO) (ys:=k.map bO) ho hB hl (dA k).symm (by rw[hm];simp) (λy hy=>by obtain⟨w,_,rfl⟩:=List.mem_map.1 hy;rfl) (dw k) rfl (by simp;omega) (by simp;omega) ?_;intro v' g' B' k1 k2 k3 k4 k5 k6;have HQ:dV g' v' (l++k) B':=by unfold dV;rw[List.map_append];exact k3
 obtain⟨p',c',rfl,_⟩:=cn.form HQ;have rM:((l++k).map bO).length=(l++k).length:=by simp
 rw[rM]at HQ ⊢;exact hk p' c' g' B' k1 k2 HQ k4 ⟨λb U hs=>k5 b hs U,k6⟩
theorem uQ {g:Heap} {bb:Nat} {vb:Value} {p:Int} (r:bD g bb vb p) (hp:p<=80000000) :
  Dr prog 125 [.pointer (some ⟨bb,0,none⟩)] g bb vb p 100 λg' v=>∃ cs B,eE ox 2 g' v cs B/\Nd B/\(∀ b∈B,g b=none)/\cj cs:=by
 refine bS au func125 Xb Rb rfl ?_;conv=>whnf
 refine bF r (by omega) (λx x0 x1 x2 r1=>?_);conv=>whnf
 refine aj ?_;conv=>whnf
 refine kP [.int .i64 1] r1 rfl (λbf g1 jS nbf l1 r2 e1=>?_);conv=>whnf
 refine kP [.int .i64 (-1),.slice none 0 0,.int .i64 0,.slice (some ⟨bf,0,none⟩) 1 1] r2 rfl (λbc g2 YM R7 l2 r3 e2=>?_);have abW:bc≠bf:=by rintro rfl;rw[YM]at e1;cases e1
 have o2:eE ox 2 g2 (.slice (some ⟨bc,0,none⟩) 2 2) [⟨-1,[]⟩,⟨0,[1]⟩] ([bc]++([]++([bf]++[]))):=by
  refine⟨[[.int .i64 (-1),.slice none 0 0],[.int .i64 0,.slice (some ⟨bf,0,none⟩) 1 1]],[bc],_,fR (by simp) rfl (by simpa using e2),.cons ⟨_,rfl,by simp,.inl ⟨rfl,rfl,rfl⟩⟩ (.cons ⟨_,rfl,?_⟩ .nil),rfl⟩;exact fR (by simp[bO]) rfl (by rw[l2 bf _ e1];rfl)
 have nd2:Nd ([bc]++([]++([bf]++[]))):=λa=>by
  simp only[List.nil_append,List.append_nil,List.count_append,List.count_cons,List.count_nil];by_cases h1:bc=a
  ·have:¬bf=a:=by omega
   simp[h1,this]
  ·simp[h1];split<;>omega
 have f2:∀ b∈[bc]++([]++([bf]++[])),g b=none:=λb U=>by
  simp at U;rcases U with rfl|rfl
  ·exact fu l1 YM
  ·exact jS
 have ok2:∀ i (hi:i < ([⟨-1,[]⟩,⟨0,[1]⟩]:List dR).length),xT (2+x).toNat i ([⟨-1,[]⟩,⟨0,[1]⟩]:List dR)[i]:=λi hi=>by
  have L7:i=0\/i=1:=by simp at hi;omega
  rcases L7 with rfl|rfl
  ·exact⟨λt ht=>by simp at ht,λ_=>⟨rfl,rfl⟩,λh=>by omega,λh=>by omega,by simp⟩
  ·exact⟨λt ht=>by simp at ht;subst ht;exact .inl rfl,λh=>by omega,λ_=>⟨rfl,rfl⟩,λh=>by omega,by simp⟩
 generalize hcs:([⟨-1,[]⟩,⟨0,[1]⟩]:List dR)=RL at o2 ok2;have n2:RL.length=2:=by rw[<-hcs];rfl
 conv=>whnf
 refine fm [0,3,4,5] [] (λy:Heap × Int × (Option Addr × Nat) × List dR × List Nat=>(y.2.2.2.1.length:Int)<=2+x/\2<=y.2.2.2.1.length/\g.le y.1/\bD y.1 bb vb y.2.1/\p<=y.2.1/\y.2.1<=p+1+10*y.2.2.2.1.length/\eE ox 2 y.1 (.slice y.2.2.1.1 y.2.2.2.1.length y.2.2.1.2) y.2.2.2.1 y.2.2.2.2/\Nd y.2.2.2.2/\(∀ b∈y.2.2.2.2,g b=none)/\∀ i (hi:i < y.2.2.2.1.length),xT (2+x).toNat i y.2.2.2.1[i]) (λy=>5-y.2.2.2.1.length)
  (λy=>([.v (.pointer (some ⟨bb,0,none⟩)),.v (.int .i64 (2+x)),.v (.slice y.2.2.1.1 y.2.2.2.1.length y.2.2.1.2),.v (.int .i64 y.2.2.2.1.length)],[],cN y.1 bb vb y.2.1))
  (g2,p+1,(some ⟨bc,0,none⟩,2),RL,[bc]++([]++([bf]++[]))) ⟨by simp only;omega,by simp only;omega,Heap.le_trans l1 l2,r3,by simp only;omega,by simp only;omega,by simp only;rw[n2];exact o2,nd2,f2,ok2⟩ (by simp only;rw[n2];rfl) ?_
 rintro⟨g3,q3,⟨pa,ca⟩,cs,B⟩ ⟨hx,LD,l3,r3,p7,rV,o3,nd3,f3,RO⟩;simp only at hx LD l3 r3 p7 rV o3 nd3 f3 RO ⊢;conv=>whnf
 apply ax<;>intro g1;all_goals conv=>whnf
 ·refine bF r3 (by omega) (λs s0 s1 s2 r4=>?_);conv=>whnf
  refine bF r4 (by omega) (λk k0 k1 k2 r5=>?_);conv=>whnf
  have abX:=o3.in inK;refine fm [0,3,4,5,6,7] [6] (λy:Heap × Int × Int × (Option Addr × Nat) × List Int × List Nat=>0<=y.2.2.1/\(y.2.2.2.2.1.length:Int)+y.2.2.1<=2/\g.le y.1/\bD y.1 bb vb y.2.1/\p<=y.2.1/\y.2.1<=q3+2+2*y.2.2.2.2.1.length/\eE ox 2 y.1 (.slice pa cs.length ca) cs B/\dV y.1 (.slice y.2.2.2.1.1 y.2.2.2.2.1.length y.2.2.2.1.2) y.2.2.2.2.1 y.2.2.2.2.2/\Nd (B++y.2.2.2.2.2)/\(∀ b∈y.2.2.2.2.2,g b=none)/\ie (2+x).toNat y.2.2.2.2.1) (λy=>y.2.2.1.toNat)
   (λy=>([.v (.pointer (some ⟨bb,0,none⟩)),.v (.int .i64 (2+x)),.v (.slice pa cs.length ca),.v (.int .i64 cs.length),.l 6 0,.v (.int .i64 y.2.2.1)],[some [.int .i64 s,.slice y.2.2.2.1.1 y.2.2.2.2.1.length y.2.2.2.1.2]],cN y.1 bb vb y.2.1))
   (g3,q3+1+1,k,(none,0),[],[]) ⟨k0,by simp only[List.length_nil];omega,l3,r5,by simp only;omega,by simp only[List.length_nil];omega,o3,⟨by simp,.inl ⟨rfl,rfl,rfl⟩⟩,by simpa using nd3,by simp,λt ht=>by simp at ht⟩ rfl ?_
  rintro⟨g6,q6,k6,⟨fp,fc⟩,fl,Bf⟩ ⟨LA,FZ,l6,r6,gD,s9,o6,w6,YN,f6,t6⟩;simp only at LA FZ l6 r6 gD s9 o6 w6 YN f6 t6 ⊢;conv=>whnf
  apply ax<;>intro g2;all_goals conv=>whnf
  ·have HH:=pL (2+x) r6 (by omega) (by omega);have finish:∀ q7 t,bD g6 bb vb q7->q6<=q7->q7<=q6+2->cR (2+x) t->True:=λ_ _ _ _ _ _=>trivial;repeat' ((first|exact trivial|apply And.intro|refine iC r6 HH (λv g7 q7 l7 r7 h1 h2 hA=>?_))<;>conv=>whnf)
   all_goals
    have hg7:=hA.1;refine hA.2.elim λt ht=>?_;have hv:=ht.1;have J6:=ht.2;subst hv;subst hg7;conv=>whnf
    refine xq (k:=[t]) (g0:=g) r r7 w6 f6 l6 rfl (by simp;omega) (λp8 c8 g8 B8 l8 r8 o8 f8 YO=>?_);conv=>whnf
    refine aj ?_;conv=>whnf
    have dis:∀ b∈B,b ∉ Bf:=λb U hx=>by
     have:=YN b;have:=List.count_pos_iff.2 U;have:=List.count_pos_iff.2 hx;simp only[List.count_append]at *;omega
    have o6':=o6.in inK;have lf:(fl++[t]).length=fl.length+1:=by simp
    refine dm (g8,q7,k6-1,(p8,c8),fl++[t],B8) ⟨by simp only;omega,by simp only;omega,l8,r8,by simp only;omega,by simp only;omega,o6.aG sC (YO.aG dis),o8,YN.swap o8.nd (λb U=>(YO.new b U).imp id (λhn hm=>by obtain⟨o,ho⟩:=o6' b hm;rw[hn]at ho;cases ho)),f8,λt' ht'=>?_⟩ (by simp only;omega) rfl;rcases List.mem_append.1 ht' with h3|h3
    ·exact t6 t' h3
    ·rw[List.mem_singleton.1 h3];rw[show(((2+x).toNat:Nat):Int)=2+x by omega];exact J6
  ·refine Nt sC inK (a:=⟨s,fl⟩) r r6 o6 ⟨_,rfl,w6⟩ YN (λb U=>(List.mem_append.1 U).elim (f3 b) (f6 b)) l6 rfl rfl rfl rfl (Nat.le_trans (Nat.mul_le_mul_left _ (show _<=100 from Nat.le_of_ble_eq_true rfl)) (by omega)) (by omega) (λv g8 B8 l8 r8 o8 nd8 f8 YO=>?_);have ff:=o8.form;refine ff.elim λp8 ff=>ff.elim λc8 hf=>?_;have hv:=hf.1;subst hv;conv=>whnf
   refine aj ?_;conv=>whnf
   have lf:(cs++[(⟨s,fl⟩:dR)]).length=cs.length+1:=by simp
   refine dm (g8,q6,(p8,c8),cs++[⟨s,fl⟩],B8) ⟨by simp only[lf];omega,by simp only[lf];omega,l8,r8,by simp only;omega,by simp only[lf];omega,o8,nd8,f8,λi hi=>?_⟩ (by simp only[lf];omega) (by simp only[lf];rfl);by_cases cG:i < cs.length
   ·simp only[List.getElem_append_left cG];exact RO i cG
   ·have nV:i=cs.length:=by simp only[lf]at hi;omega
    subst nV;simp only[List.getElem_append_right (Nat.le_refl _),Nat.sub_self,List.getElem_cons_zero];have:=s1 (by omega);exact⟨t6,λh=>by omega,λh=>by omega,λ_=>⟨s0,this⟩,by show fl.length<=2;omega⟩
 ·have hce:(2+x).toNat=cs.length:=by omega
  rw[hce]at RO;exact⟨_,_,rfl,l3,r3.free,by omega,by omega,cs,B,o3,nd3,f3,LD,by omega,RO⟩
def sn (h:Heap) (v:Value) (l:List Int) (B:List Nat):Prop:=(v=.slice none 0 0/\l=[]/\B=[])\/∃ b r t,v=.slice (some ⟨b,0,none⟩) l.length (l++r).length/\h b=some (.cells ((l++r).map (Value.int .i64)).toArray t (0,0))/\(∀ x∈l++r,cL x)/\B=[b]
theorem sn.own {h:Heap} {v:Value} {l:List Int} {B:List Nat} (ho:sn h v l B):dV h v l B:=by
 rcases ho with ⟨rfl,rfl,rfl⟩|⟨b,r,t,rfl,U,_,rfl⟩
 ·exact⟨by simp,.inl ⟨rfl,rfl,rfl⟩⟩
 ·refine⟨λx hx=>by obtain⟨w,_,rfl⟩:=List.mem_map.1 hx;rfl,.inr ⟨b,(l++r).length,r.map (Value.int .i64),t,by simp,by simp,?_,by rw[dA];simp,rfl⟩⟩;rw[dA,<-List.map_append];exact U
theorem sn.aG {h h':Heap} {v:Value} {l:List Int} {B:List Nat} (hk:cC h h' B) (ho:sn h v l B):sn h' v l B:=by
 rcases ho with h1|⟨b,r,t,e1,U,e2,rfl⟩
 ·exact .inl h1
 ·exact .inr ⟨b,r,t,e1,hk b (by simp) _ U,e2,rfl⟩
theorem Xw {el:TypeId} {h0 h:Heap} {p:Option Addr} {n cap m:Nat} {l k:List Int} {B:List Nat} {K:Value->Heap->Prop} (ho:sn h (.slice p n cap) l B) (hB:∀ b∈B,h0 b=none) (hle:h0.le h) (hm:m=k.length) (hi:∀ x∈k,cL x) (hs:l.length+k.length<=1000000)
  (hk:∀ v' h' B',h0.le h'->sn h' v' (l++k) B'->(∀ b∈B',h0 b=none)->Ev h h' B B'->K v' h'):App 8 1 [.int .i64 0] el h p n cap m (k.map (Value.int .i64)) K:=by
 subst hm;have OZ:=dw k;have lS:∀ b,h b=none->h0 b=none:=λb U=>by
  cases hh:h0 b with
  | none=>rfl
  | some x=>rw[hle b x hh]at U;cases U
 have grow:∀ b c (r:List Int),h b=none->(l++k).length<=c->r=List.replicate (c-(l++k).length) 0->(∀ x∈l,cL x)->K (.slice (some ⟨b,0,none⟩) (l++k).length c) (h.set b (.cells ((l++k++r).map (Value.int .i64)).toArray el)):=λb c r U hc hr hl=>by
  refine hk _ _ [b] (Heap.aM hle (lS b U)) (.inr ⟨b,r,el,?_,cZ _ _ _,λx hx=>?_,rfl⟩) (λb' bz=>by rw[List.mem_singleton.1 bz];exact lS b U) ⟨λb' hn _=>?_,λb' bz=>?_⟩
  ·rw[hr];simp at hc ⊢;omega
  ·simp only[List.mem_append]at hx;rcases hx with (hx|hx)|hx
   ·exact hl x hx
   ·exact hi x hx
   ·rw[hr]at hx;rw[List.eq_of_mem_replicate hx];unfold cL;omega
  ·have:b'≠b:=by rintro rfl;exact hn U
   simp[Heap.set,this]
  ·rw[List.mem_singleton.1 bz];exact .inr U
 have BZ:(l++k).length=l.length+k.length:=by simp
 have hzero:∀ c,(List.replicate c [Value.int .i64 0]).flatten=(List.replicate c (0:Int)).map (Value.int .i64):=λc=>by
  induction c with
  | zero=>rfl
  | succ c ih=>rw[List.replicate_succ,List.flatten_cons,ih,List.replicate_succ,List.map_cons];rfl
 rw[oH];unfold Aw;rcases ho with ⟨he,rfl,rfl⟩|⟨b,r,t,he,U,hx,rfl⟩
 ·simp only[Value.slice.injEq]at he;obtain⟨rfl,rfl,rfl⟩:=he;refine⟨λh1=>⟨OZ,?_⟩,λh1=>⟨by omega,by omega,[],⟨rfl,rfl⟩,λb c U gG=>?_⟩⟩
  ·have LA:k=[]:=List.eq_nil_of_length_eq_zero (by omega);subst LA;exact⟨rfl,hk _ _ [] hle (.inl ⟨rfl,rfl,rfl⟩) (by simp) (Ev.refl h [])⟩
  ·have:=grow b c (List.replicate (c-k.length) 0) U (by simpa using gG) (by simp) (by simp);simp only[List.nil_append,List.map_append]at this ⊢;rw[Nat.zero_add,hzero];exact this
 ·simp only[Value.slice.injEq]at he;obtain⟨rfl,rfl,rfl⟩:=he;have hl:∀ x∈l,cL x:=λx h=>hx x (by simp[h]);refine⟨λh1=>⟨OZ,_,t,U,by simp at h1 ⊢;omega,?_⟩,λh1=>⟨by omega,by omega,l.map (Value.int .i64),?_,λb' c bz gG=>?_⟩⟩
  ·have L0:k.length<=r.length:=by simp at h1;omega
   have hw:ep ((l++r).map (Value.int .i64)) (0+l.length*1) (k.map (Value.int .i64))=((l++k)++r.drop k.length).map (Value.int .i64):=by
    rw[Nat.zero_add,Nat.mul_one,List.map_append];have:=gT (k.map (Value.int .i64)) (l.map (Value.int .i64)) (r.map (Value.int .i64)) (by simpa using L0);rw[List.length_map,List.length_map]at this;rw[this];simp
   refine hk _ _ [b] (Heap.aM hle (hB b (by simp))) (.inr ⟨b,r.drop k.length,t,?_,?_,λx h=>?_,rfl⟩) hB ⟨λb' hn hs=>?_,λb' h=>.inl h⟩
   ·simp;omega
   ·rw[<-hw];exact cZ _ _ _
   ·simp only[List.mem_append]at h;rcases h with (h|h)|h
    ·exact hl x h
    ·exact hi x h
    ·exact hx x (by simp[List.mem_of_mem_drop h])
   ·have:b'≠b:=by rintro rfl;exact hs (by simp)
    simp[Heap.set,this]
  ·show eG h b 0 (l.length*1)=some _;rw[bP U _ _ (by simp)];simp
  ·have:=grow b' c (List.replicate (c-(l.length+k.length)) 0) bz (by simpa using gG) (by simp) hl;simp only[List.map_append,List.append_assoc]at this ⊢;rw[hzero];rw[BZ]at this;exact this
theorem Xx {g h':Heap} {bb:Nat} {vb:Value} {q:Int} {B B':List Nat} (U:g bb=none) (hB:∀ b∈B,∃ o,g b=some o) (ev:Ev (cN g bb vb q) h' B B'):h'=cN (aW h' bb) bb vb q/\Ev g (aW h' bb) B B'/\cC h' (aW h' bb) B':=by
 obtain⟨o,KY⟩:=nG g bb vb q;have O3:bb ∉ B:=λhx=>by obtain⟨o,h1⟩:=hB bb hx;rw[U]at h1;cases h1
 have rG:h' bb=cN g bb vb q bb:=ev.ic bb (by rw[KY];simp) O3;have KZ:bb ∉ B':=λhx=>by
  rcases ev.new bb hx with h1|h1
  ·exact O3 h1
  ·rw[KY]at h1;cases h1
 refine⟨mP rG,⟨λb hn hs=>?_,λb hm=>?_⟩,λb hm o ho=>?_⟩
 ·have cD:b≠bb:=by rintro rfl;exact hn U
  unfold aW;rw[if_neg cD,ev.ic b (by rw[eK cD];exact hn) hs,eK cD]
 ·rcases ev.new b hm with h1|h1
  ·exact .inl h1
  ·have cD:b≠bb:=by rintro rfl;rw[KY]at h1;cases h1
   rw[eK cD]at h1;exact .inr h1
 ·have:b≠bb:=by rintro rfl;exact KZ hm
  unfold aW;rw[if_neg this];exact ho
theorem bp {g0 g:Heap} {b:Nat} (hl:g0.le g) (U:g b=none):g0 b=none:=by
 cases hx:g0 b with
 | none=>rfl
 | some o=>have:=hl b o hx;rw[U]at this;cases this
theorem sn.in {h:Heap} {v:Value} {l:List Int} {B:List Nat} (ho:sn h v l B):∀ b∈B,∃ o,h b=some o:=ho.own.in
theorem sn.form {h:Heap} {v:Value} {l:List Int} {B:List Nat} (ho:sn h v l B):∃ p c,v=.slice p l.length c:=by
 rcases ho with ⟨rfl,rfl,_⟩|⟨b,r,t,rfl,_⟩
 ·exact⟨_,_,rfl⟩
 ·exact⟨_,_,rfl⟩
theorem Nu {el:TypeId} {g0 g:Heap} {bb:Nat} {vb:Value} {q0 q:Int} {p:Option Addr} {n c m:Nat} {l k:List Int} {B:List Nat} {K:Value->Heap->Prop} (r0:bD g0 bb vb q0) (r:bD g bb vb q) (ho:sn g (.slice p n c) l B) (hB:∀ b∈B,g0 b=none) (hl:g0.le g) (hm:m=k.length) (hi:∀ x∈k,cL x) (hs:l.length+k.length<=1000000)
  (hk:∀ p' c' g' B',g0.le g'->bD g' bb vb q->sn g' (.slice p' (l++k).length c') (l++k) B'->(∀ b∈B',g0 b=none)->Ev g g' B B'->K (.slice p' (l++k).length c') (cN g' bb vb q)):App 8 1 [.int .i64 0] el (cN g bb vb q) p n c m (k.map (Value.int .i64)) K:=by
 have Iq:=bh (vb:=vb) (p:=q) r.free;refine Xw (h0:=g0) (ho.aG (cC.of_le Iq _)) hB (Heap.le_trans hl Iq) hm hi hs ?_;intro v' h' B' k1 k2 k3 k4;obtain⟨e1,e2,e3⟩:=Xx r.free ho.in k4;have rM:g0.le (aW h' bb):=uL k1 (bp hl r.free);have zn:=k2.aG e3;obtain⟨p',c',rfl⟩:=zn.form;rw[e1];exact hk p' c' _ B' rM ⟨by simp[aW],by obtain⟨n,a1,a2⟩:=r0.bytes;exact⟨n,a1.le rM,a2⟩,r.lo⟩ zn k3 e2
def sq (h:Heap) (a:Value) (l:List Int):Prop:=∃ B,sn h a l B
def K0 (h0 h:Heap) (a:Value) (l:List Int):Prop:=∃ B,sn h a l B/\∀ b∈B,h0 b=none
theorem K0.toZ {h0 h:Heap} {a:Value} {l:List Int} (z:K0 h0 h a l):sq h a l:=by
 obtain⟨B,h1,_⟩:=z;exact⟨B,h1⟩
theorem K0.aW {h0 h:Heap} {a:Value} {l:List Int} {b:Nat} (z:K0 h0 h a l) (U:h0 b≠none):sq (aW h b) a l:=by
 obtain⟨B,h1,h2⟩:=z;refine⟨B,h1.aG λx hx o ho=>?_⟩;have:x≠b:=by rintro rfl;exact U (h2 _ hx)
 unfold Go.Proofs.aW;rw[if_neg this];exact ho
def eo (cls eL:Int) (a:Value) (out locals:Int):List Value:=[.int .i64 cls,.int .i64 eL,a,.int .i64 out,.int .i64 locals,.slice none 0 0,.slice none 0 0,.slice none 0 0]
theorem uR {g:Heap} {bb:Nat} {vb:Value} {p:Int} (n:Nat) (r:bD g bb vb p) (hp:p<=80000000) (hn:1<=n/\n<=1000) :
  Dr prog 166 [.pointer (some ⟨bb,0,none⟩),.int .i64 n] g bb vb p 10 λg' v=>∃ a out l,v=.agg ⟨eo 0 0 a out 0⟩/\K0 g g' a l/\l.length<=2/\ie n l/\cR n out:=by
 refine bS au func166 Xe Re rfl ?_;conv=>whnf
 refine iC r (pL n r (by omega) (by omega)) (λv g1 q1 l1 r1 h1 h2 hA=>?_);obtain⟨rfl,out,rfl,ht⟩:=hA;conv=>whnf
 refine bF r1 (by omega) (λk k0 k1 k2 r5=>?_);conv=>whnf
 refine fm [0,1,4,5,6] [4,5] (λy:Heap × Int × Int × (Option Addr × Nat) × List Int × List Nat=>0<=y.2.2.1/\(y.2.2.2.2.1.length:Int)+y.2.2.1<=2/\g1.le y.1/\bD y.1 bb vb y.2.1/\p<=y.2.1/\y.2.1<=p+4+2*y.2.2.2.2.1.length/\sn y.1 (.slice y.2.2.2.1.1 y.2.2.2.2.1.length y.2.2.2.1.2) y.2.2.2.2.1 y.2.2.2.2.2/\(∀ b∈y.2.2.2.2.2,g1 b=none)/\ie n y.2.2.2.2.1) (λy=>y.2.2.1.toNat)
  (λy=>([.v (.pointer (some ⟨bb,0,none⟩)),.v (.int .i64 n),.l 4 0,.l 5 0,.v (.int .i64 y.2.2.1)],[some (eo 0 0 (.slice none 0 0) 0 0),some (eo 0 0 (.slice y.2.2.2.1.1 y.2.2.2.2.1.length y.2.2.2.1.2) out 0)],cN y.1 bb vb y.2.1))
  (g1,q1+1,k,(none,0),[],[]) ⟨k0,by simp only[List.length_nil];omega,Heap.le_refl _,r5,by simp only;omega,by simp only[List.length_nil];omega,.inl ⟨rfl,rfl,rfl⟩,by simp,λt ht=>by simp at ht⟩ rfl ?_
 rintro⟨g6,q6,k6,⟨fp,fc⟩,fl,Bf⟩ ⟨LA,FZ,l6,r6,gD,s9,w6,f6,t6⟩;simp only at LA FZ l6 r6 gD s9 w6 f6 t6 ⊢;conv=>whnf
 apply ax<;>intro g2;all_goals conv=>whnf
 ·have HH:=pL n r6 (by omega) (by omega);repeat' ((first|exact trivial|apply And.intro|refine iC r6 HH (λv g7 q7 l7 r7 h1 h2 hA=>?_))<;>conv=>whnf)
  all_goals
   have hg7:=hA.1;refine hA.2.elim λt ht=>?_;have hv:=ht.1;have J6:=ht.2;subst hv;subst hg7;conv=>whnf
   refine Nu (k:=[t]) (g0:=g1) r1 r7 w6 f6 l6 rfl (λx hx=>by rw[List.mem_singleton.1 hx];unfold cR at J6;unfold cL;omega) (by simp;omega) (λp8 c8 g8 B8 l8 r8 o8 f8 YO=>?_);conv=>whnf
   refine aj ?_;conv=>whnf
   have lf:(fl++[t]).length=fl.length+1:=by simp
   refine dm (g8,q7,k6-1,(p8,c8),fl++[t],B8) ⟨by simp only;omega,by simp only;omega,l8,r8,by simp only;omega,by simp only;omega,o8,f8,λt' ht'=>?_⟩ (by simp only;omega) rfl;rcases List.mem_append.1 ht' with h3|h3
   ·exact t6 t' h3
   ·rw[List.mem_singleton.1 h3];exact J6
 ·exact⟨_,_,rfl,l6,r6.free,by omega,by omega,_,_,_,rfl,⟨_,w6,f6⟩,by omega,t6,ht⟩
def Rp {α:Type} (R:Heap->List Value->α->Prop):Prop:=∀(h h':Heap) (x:List Value) (a:α),h.le h'->R h x a->R h' x a
structure uS {α:Type} (sz:Nat) (R:Heap->List Value->α->Prop) (h0 h:Heap) (b c:Nat) (A:List α):Prop where
 le:h0.le h
 fr:h0 b=none
 row:∃ aP,cn sz h (.slice (some ⟨b,0,none⟩) A.length c) aP [b]/\aP.length=A.length/\∀ i (h1:i < aP.length) (h2:i < A.length),R (aW h b) aP[i] A[i]
variable {α:Type} {sz:Nat} {R:Heap->List Value->α->Prop} {h0 h h':Heap} {b c:Nat} {A:List α}
theorem uS.in (a:uS sz R h0 h b c A):∃ o,h b=some o:=by
 obtain⟨aP,ho,_⟩:=a.row;exact ho.in b (by simp)
theorem uS.aG (hR:Rp R) (a:uS sz R h0 h b c A) (hl:h.le h'):uS sz R h0 h' b c A:=by
 obtain⟨aP,ho,hn,hr⟩:=a.row;exact⟨Heap.le_trans a.le hl,a.fr,aP,ho.aG (cC.of_le hl _),hn,λi h1 h2=>hR _ _ _ _ (bT b hl) (hr i h1 h2)⟩
theorem uS.at (a:uS sz R h0 h b c A) {i:Nat} (hi:i < A.length) :
  ∃ vs,eG h b (0+i*sz) sz=some vs/\vs.length=sz/\R (aW h b) vs A[i] /\
   ∃ pre post t,h b=some (.cells (pre++vs++post).toArray t (0,0))/\pre.length=i*sz /\
   ∀(oW:List Value) (s:α) (h2:Heap),oW.length=sz->h2=h.set b (.cells (pre++oW++post).toArray t (0,0))->R (aW h b) oW s->aW h2 b=aW h b/\uS sz R h0 h2 b c (A.set i s):=by
 obtain⟨aP,ho,hn,hr⟩:=a.row;have vC:i < aP.length:=by omega
 have sO:aP=aP.take i++aP[i]::aP.drop (i+1):=by simp
 have EI:cn sz h (.slice (some ⟨b,0,none⟩) A.length c) (aP.take i++aP[i]::aP.drop (i+1)) [b]:=by rw[<-sO];exact ho
 obtain⟨bl,cl,pre,post,tl,hq,uo,fV,Ra,hB,eF⟩:=EI.at;simp only[Value.slice.injEq,Option.some.injEq,Addr.mk.injEq]at hq;obtain⟨⟨rfl,_⟩,_,rfl⟩:=hq;have kB:pre.length=i*sz:=by rw[fV,List.length_take,Nat.min_eq_left (by omega)]
 refine⟨aP[i],?_,Ra,hr i vC hi,pre,post,tl,uo,kB,λvs s h5 DY e5 hs=>?_⟩
 ·rw[bP uo sz (0+i*sz) (by simp[kB,Ra])];rw[List.append_assoc,Nat.zero_add,<-kB,List.drop_left,List.take_left' Ra]
 ·have hh:aW h5 b=aW h b:=by rw[e5,yO]
  have g5:h5 b=some (.cells (pre++vs++post).toArray tl (0,0)):=by rw[e5];exact cZ _ _ _
  have Im:aP.set i vs=aP.take i++vs::aP.drop (i+1):=by rw[List.set_eq_take_append_cons_drop,if_pos vC]
  refine⟨hh,?_,a.fr,aP.set i vs,?_,by simp[hn],λj h1 h2=>?_⟩
  ·rw[e5];exact Heap.aM a.le a.fr
  ·rw[Im,List.length_set];exact eF h5 vs g5 DY
  ·rw[hh];simp only[List.getElem_set];split
   ·exact hs
   ·exact hr j (by simpa using h1) (by simpa using h2)
theorem uS.pK (hR:Rp R) {bb:Nat} {vb:Value} {q0 q:Int} {n bytes:Nat} {zero:List Value} {el:TypeId} {vs:List Value} {s:α} {K:Value->Heap->Prop} (r0:bD h0 bb vb q0) (r:bD h bb vb q) (a:uS sz R h0 h b c A) (hn:n=A.length) (iT:R (aW h b) vs s) (DY:vs.length=sz) (OZ:dG vs=true) (hA:A.length<=1000) (hz:zero.length=sz) (U:bytes<=1000)
  (hk:∀ b' c' h',uS sz R h0 h' b' c' (A++[s])->(aW h b).le (aW h' b')->bD h' bb vb q->K (.slice (some ⟨b',0,none⟩) (A.length+1) c') (cN h' bb vb q)):App bytes sz zero el (cN h bb vb q) (some ⟨b,0,none⟩) n c 1 vs K:=by
 subst hn;obtain⟨aP,ho,hn,hr⟩:=a.row;have hm:(aP.length + [vs].length)*bytes<=1001*1000:=Nat.mul_le_mul (by simp;omega) U;refine Go.Proofs.pK r0 r (xs:=aP) (ys:=[vs]) (B:=[b]) ho (by simpa using a.fr) a.le (by simp) rfl (by simpa using DY) OZ hz (by omega) (by simp;omega) ?_;intro v' h' B' w1 wr w2 w3 w4 w5;have Xs:=w2;obtain⟨hx,⟨_,OI,_⟩|⟨b',c',rest,t,rfl,hc,rG,_,rfl⟩⟩:=w2
 ·simp at OI
 have hl2:(aP++[vs]).length=A.length+1:=by simp[hn]
 rw[hl2]at Xs ⊢;have hle:(aW h b).le (aW h' b'):=λx o hx=>by
  unfold aW at hx ⊢;split at hx
  ·cases hx
  rename_i Qh;have cD:x≠b':=by
   rintro rfl;rcases w5 x (by simp)with h1|h1
   ·exact Qh (by simpa using h1)
   ·rw[h1]at hx;cases hx
  rw[if_neg cD,w4 x (by simpa using Qh) (by rw[hx];simp)];exact hx
 refine hk b' c' h' ⟨w1,w3 b' (by simp),aP++[vs],by simpa using Xs,by simp[hn],λi h1 h2=>?_⟩ hle wr;by_cases hi:i < A.length
 ·rw[List.getElem_append_left (by omega),List.getElem_append_left hi];exact hR _ _ _ _ hle (hr i (by omega) hi)
 ·have IE:i=A.length:=by simp at h2;omega
  subst IE;rw[List.getElem_append_right (by omega),List.getElem_append_right (by omega)];simp only[hn,Nat.sub_self,List.getElem_cons_zero];exact hR _ _ _ _ hle iT
theorem BI {g:Heap} {bb b:Nat} {vb:Value} {q:Int} {o:Obj} (h:b≠bb):(cN g bb vb q).set b o=cN (g.set b o) bb vb q:=by
 funext x
 unfold cN;simp only[Heap.set];by_cases e1:x=b
 ·have:x≠bb:=by rw[e1];exact h
  simp[e1,h]
 ·simp[e1]
theorem mQ {g:Heap} {bb b off:Nat} {vb:Value} {q:Int} {cs jt vs:List Value} {t:TypeId} {K:Heap->Prop} (rG:g bb=none) (U:g b=some (.cells cs.toArray t (0,0))) (hl:off+vs.length<=cs.length) (hx:ep cs off vs=jt)
  (hk:K (cN (g.set b (.cells jt.toArray t (0,0))) bb vb q)):St (cN g bb vb q) b off vs K:=by
 have cD:b≠bb:=by rintro rfl;rw[rG]at U;cases U
 refine z7 (h:=cN g bb vb q) (b:=b) (by rw[eK cD];exact U) jt hl hx (λh5 e5 g5=>?_);rw[e5,BI cD];exact hk
def YP (h:Heap) (rec:List Value) (m:cB):Prop:=∃ a,rec=eo m.cls m.eL a m.out m.locals/\sq h a m.args/\m.code=[]/\m.aL=[]/\m.catches=[]
theorem sq.le {h h':Heap} (hl:h.le h') {a:Value} {l:List Int} (hz:sq h a l):sq h' a l:=by
 obtain⟨B,hz⟩:=hz;exact⟨B,hz.aG (cC.of_le hl _)⟩
theorem sq.ints {h:Heap} {a:Value} {l:List Int} (hz:sq h a l) (hl:l.length<=1000):cT h a l:=by
 obtain⟨B,hz⟩:=hz;rcases hz with ⟨rfl,rfl,rfl⟩|⟨b,r,t,rfl,U,hi,rfl⟩
 ·exact hY _ _ _
 ·refine mN (rest:=r.map (Value.int .i64)) (t:=t) (fz:=(0,0)) ?_ (by omega) (by simp) (λt ht=>hi t (by simp[ht]));rw[<-List.map_append];exact U
theorem sq.form {h:Heap} {a:Value} {l:List Int} (hz:sq h a l):∃ p c,a=.slice p l.length c:=by
 obtain⟨B,hz⟩:=hz;exact hz.form
theorem kQ:Rp YP:=λh h' x m hl hr=>by
 obtain⟨a,e1,e2,e3⟩:=hr;exact⟨a,e1,e2.le hl,e3⟩
theorem tA {L:List Value} {n:Nat} {K:List Value->Prop} (h:L.length=n) (hk:K L):kE L (λvs=>match vs.length.beq n with
  | true=>K vs
  | false=>False):=by
 refine(bJ _ _).2 ?_;subst h;rw[Nat.beq_refl];exact hk
theorem K1 {o:Option (List Value)} {cs:List Value} {K:List Value->Prop}:o=some cs->K cs->(match o with
  | some cs=>K cs
  | none=>False):=λhe hk=>by subst he;exact hk
theorem HR {e:Env} {ty:Nat->Option TI} {K:List (Nat × List Value)->Prop} (hk:K []):parts e ty [] K:=hk
theorem Xy {z L1 L2 L3:List Value} {k:Nat} (hz:z.length=k) (h1:L1.length=k) (h2:L2.length=k) (h3:L3.length=k):oG (λi=>some (i*k)) (tH 3 z) [(0,L1),(1,L2),(2,L3)]=some (L1++L2++L3):=by
 have e0:tH 3 z=[]++(z++(z++(z++[]))):=rfl;have w1:ep (tH 3 z) (0*k) L1=L1++(z++z):=by
  rw[e0];have:=gT L1 [] (z++(z++(z++[]))) (by simp;omega);simp only[List.length_nil]at this;rw[Nat.zero_mul,this,h1,<-hz,List.drop_left];simp
 have w2:ep (L1++(z++z)) (1*k) L2=(L1++L2)++z:=by
  have:=gT L2 L1 (z++z) (by simp;omega);rw[Nat.one_mul,<-h1,this,h2,<-hz,List.drop_left]
 have w3:ep ((L1++L2)++z) (2*k) L3=L1++L2++L3:=by
  have:=gT L3 (L1++L2) z (by omega);rw[show 2*k=(L1++L2).length by simp;omega,this,h3,<-hz,List.drop_length,List.append_nil]
 have b1:(0*k+L1.length).ble (tH 3 z).length=true:=Nat.ble_eq_true_of_le (by simp[tH];omega);have b2:(1*k+L2.length).ble (L1++(z++z)).length=true:=Nat.ble_eq_true_of_le (by simp;omega);have b3:(2*k+L3.length).ble ((L1++L2)++z).length=true:=Nat.ble_eq_true_of_le (by simp;omega);simp only[oG,b1,w1,b2,w2,b3,w3]
theorem Fv {g:Heap} {bb:Nat} {vb:Value} {p:Int} (cp:Option Addr) (n cc:Nat) (r:bD g bb vb p) (hp:p<=70000000) (hn:2<=n/\n<=5) :
  Dr prog 126 [.pointer (some ⟨bb,0,none⟩),.slice cp n cc] g bb vb p 200 λg' v=>∃ b c ms,v=.slice (some ⟨b,0,none⟩) ms.length c/\uS 8 YP g g' b c ms/\1<=ms.length/\ms.length<=4/\∀ m∈ms,eY n m:=by
 refine bS au func126 Xc Rc rfl ?_;conv=>whnf
 refine iC r (uR n r (by omega) (by omega)) (λv g1 q1 l1 r1 h1 h2 hA=>?_);obtain⟨a1,yV,k1,rfl,z1,n1,t1,f1⟩:=hA;have z1:=z1.toZ;have hL1:(eo 0 0 a1 yV 0).length=8:=rfl;generalize aa8:eo 0 0 a1 yV 0=L1 at hL1;conv=>whnf
 refine iC r1 (uR n r1 (by omega) (by omega)) (λv g2 q2 l2 r2 h3 h4 hA=>?_);obtain⟨a2,yW,k2,rfl,z2,n2,t2,f2⟩:=hA;have z2:=z2.toZ;have hL2:(eo 0 0 a2 yW 0).length=8:=rfl;generalize aa9:eo 0 0 a2 yW 0=L2 at hL2;conv=>whnf
 refine iC r2 (uR n r2 (by omega) (by omega)) (λv g3 q3 l3 r3 h5 h6 hA=>?_);obtain⟨a3,HS,k3,rfl,z3,n3,t3,f3⟩:=hA;have z3:=z3.toZ;have hL3:(eo 0 0 a3 HS 0).length=8:=rfl;generalize aba:eo 0 0 a3 HS 0=L3 at hL3;conv=>whnf
 refine tA hL1 ?_;conv=>whnf
 refine tA hL2 ?_;conv=>whnf
 refine tA hL3 ?_;refine HR ?_;refine K1 (Xy (k:=8) (z:=[.int .i64 0,.int .i64 0,.slice none 0 0,.int .i64 0,.int .i64 0,.slice none 0 0,.slice none 0 0,.slice none 0 0]) rfl hL1 hL2 hL3) ?_;conv=>whnf
 refine(bJ _ _).2 ?_;conv=>whnf
 refine bF r3 (by omega) (λx x0 x1 x2 r5=>?_);conv=>whnf
 refine aj ?_;conv=>whnf
 refine kP (eo (-1) 0 (.slice none 0 0) 1 (1+x)) r5 rfl (λbm g5 iq nbm l5 r6 e5=>?_);conv=>whnf
 refine bF r6 (by omega) (λk kk0 kk1 kk2 r7=>?_);conv=>whnf
 subst aa8 aa9 aba;have l35:g.le g5:=Heap.le_trans l1 (Heap.le_trans l2 (Heap.le_trans l3 l5));have RW:g bm=none:=bp (Heap.le_trans l1 (Heap.le_trans l2 l3)) iq;have a5:uS 8 YP g g5 bm 1 [⟨-1,0,[],1,1+x,[],[],[]⟩]:=⟨l35,RW,[eo (-1) 0 (.slice none 0 0) 1 (1+x)],fR (by simp[eo]) rfl (by rw[e5];rfl),rfl,λi h1 h2=>by
  have h0:i=0:=by simp at h2;omega
  subst h0;exact⟨.slice none 0 0,rfl,⟨[],.inl ⟨rfl,rfl,rfl⟩⟩,rfl,rfl,rfl⟩⟩
 have hT5:∀ m∈[(⟨-1,0,[],1,1+x,[],[],[]⟩:cB)],eY n m:=λm hm=>by
  rw[List.mem_singleton.1 hm];exact⟨.inl ⟨rfl,rfl⟩,by simp,.inl rfl,λt ht=>(by simp at ht),by simp only;omega,by simp[bX];omega⟩
 have l3m:g3.le (aW g5 bm):=uL l5 iq;have Wx:=z1.le (Heap.le_trans l2 (Heap.le_trans l3 l3m));have z2':=z2.le (Heap.le_trans l3 l3m);clear z1 z2 z3;obtain⟨s1,d1,rfl⟩:=Wx.form;obtain⟨s2,d2,rfl⟩:=z2'.form;refine fm [0,5,6,7,8] [25] (λy:Heap × Int × Int × (Nat × Nat) × List cB=>0<=y.2.2.1/\(y.2.2.2.2.length:Int)+y.2.2.1<=4/\(aW g5 bm).le (aW y.1 y.2.2.2.1.1)/\bD y.1 bb vb y.2.1/\p<=y.2.1/\y.2.1<=p+40+20*(3-y.2.2.1)/\uS 8 YP g y.1 y.2.2.2.1.1 y.2.2.2.1.2 y.2.2.2.2/\1<=y.2.2.2.2.length/\∀ m∈y.2.2.2.2,eY n m) (λy=>y.2.2.1.toNat)
  (λy=>([.v (.pointer (some ⟨bb,0,none⟩)),.v (.int .i64 n),.r 25 3,.v (.slice (some ⟨y.2.2.2.1.1,0,none⟩) y.2.2.2.2.length y.2.2.2.1.2),.v (.int .i64 y.2.2.1)],[some (eo 0 0 (.slice s1 k1.length d1) yV 0++eo 0 0 (.slice s2 k2.length d2) yW 0++eo 0 0 a3 HS 0)],cN y.1 bb vb y.2.1))
  (g5,q3+1+1,k,(bm,1),[⟨-1,0,[],1,1+x,[],[],[]⟩]) ⟨kk0,by simp only[List.length_singleton];omega,Heap.le_refl _,r7,by simp only;omega,by simp only;omega,a5,by simp,hT5⟩ rfl ?_
 rintro⟨g6,q6,k6,⟨b6,c6⟩,ms⟩ ⟨LA,FZ,l6,r6,gD,s9,a6,n6,t6⟩;simp only at LA FZ l6 r6 gD s9 a6 n6 t6 ⊢;conv=>whnf
 apply ax<;>intro g2;all_goals conv=>whnf
 ·refine iC r6 (uR n r6 (by omega) (by omega)) (λv g7 q7 l7 r7 h7 h8 hA=>?_);obtain⟨aN,K2,kN,rfl,zN,nN,tN,fN⟩:=hA;obtain⟨o6,Ah⟩:=a6.in;have zN7:=zN.aW (b:=b6) (by rw[Ah];simp);obtain⟨sN,dN,rfl⟩:=zN7.form;conv=>whnf
  refine bF r7 (by omega) (λw w0 w1 w2 r8=>?_);conv=>whnf
  apply ax<;>intro gw;all_goals conv=>whnf
  ·refine bF r8 (by omega) (λsl s0 s1' s2' r9=>?_);have Im:sl=0\/sl=1:=by omega
   rcases Im with rfl|rfl
   ·conv=>whnf
    refine aq ?_;conv=>whnf
    refine aj ?_;conv=>whnf
    refine bF r9 (by omega) (λxx xx0 xx1 xx2 gV=>?_);have zh:=xx1 (by omega);conv=>whnf
    refine aj ?_;conv=>whnf
    refine b8 ?_;conv=>whnf
    repeat' ((first|exact trivial|apply And.intro|refine aj ?_|refine bF gV (by omega) (λy y0 y1 y2 BJ=>?_))<;>conv=>whnf)
    all_goals
     obtain⟨fK,zL⟩:∃ z:Int,z=mn (1+k1.length+y) 3:=⟨_,rfl⟩
     have K3:1+k1.length<=fK/\fK<=3:=by rw[zL];unfold mn;split<;>omega
     rw[<-zL];conv=>whnf
     refine fm [0,5,6,7,8,9,12,13] [9,25] (λy:Nat × Bool=>y.1<=ms.length) (λy=>ms.length-y.1)
      (λy=>([.v (.pointer (some ⟨bb,0,none⟩)),.v (.int .i64 n),.r 25 3,.v (.slice (some ⟨b6,0,none⟩) ms.length c6),.v (.int .i64 k6),.l 9 0,.v (.bool y.2),.v (.int .i64 y.1)],[some (eo (1+xx) 0 (.slice s1 k1.length d1) yV fK),some (eo 0 0 (.slice s1 k1.length d1) yV 0++eo 0 0 (.slice s2 k2.length d2) yW 0++eo 0 0 a3 HS 0)],cN g7 bb vb (q7+1+1+1+1)))
      (0,false) (by simp only;omega) rfl ?_
     rintro⟨i,again⟩ hi;simp only at hi ⊢;conv=>whnf
     apply ax<;>intro g8;all_goals conv=>whnf
     ·have cG:i < ms.length:=by omega
      obtain⟨rec,e1,DY,⟨am,K4,_⟩,_⟩:=(a6.aG kQ l7).at cG;have DZ:=iI (bh (vb:=vb) (p:=(q7+1+1+1+1)) BJ.free) _ _ _ e1;subst K4;have rc:=aK DZ (i:=0) rfl;have rs:=aK DZ (i:=1) rfl;have Xz:rd (cN g7 bb vb (q7+1+1+1+1)) b6 (0+i*8)=_:=rc;cases again
      all_goals
       repeat' ((first|exact trivial|apply And.intro|apply ax<;>intro _|refine aq ?_|refine ptr ?_|refine ld Xz ?_|refine ld rs ?_)<;>conv=>whnf)
      all_goals
       refine aj ?_;conv=>whnf
       first
       | exact dm (i+1,true) (by simp only;omega) (by simp only;omega) rfl
       | exact dm (i+1,false) (by simp only;omega) (by simp only;omega) rfl
       | (refine dm (i+1,_) (by simp only;omega) (by simp only;omega) rfl)
     ·have hT:eY n ⟨(1+xx),0,k1,yV,fK,[],[],[]⟩:=⟨(.inr ⟨by simp only;omega,by simp only;omega,by simp only;omega,by simp only;omega⟩),n1,f1,t1,K3.2,by (simp[bX];split<;>simp<;>omega)⟩
      cases again
      ·conv=>whnf
       refine(a6.aG kQ l7).pK kQ (s:=⟨(1+xx),0,k1,yV,fK,[],[],[]⟩) r BJ rfl ⟨_,rfl,Wx.le (Heap.le_trans l6 (bT b6 l7)),rfl,rfl,rfl⟩ rfl rfl (by omega) rfl (Nat.le_of_ble_eq_true rfl) (λb9 c9 g9 a9 l9 r9=>?_);conv=>whnf
       refine aj ?_;conv=>whnf
       have lf:(ms++[(⟨(1+xx),0,k1,yV,fK,[],[],[]⟩:cB)]).length=ms.length+1:=by simp
       refine dm (g9,(q7+1+1+1+1),k6-1,(b9,c9),ms++[⟨(1+xx),0,k1,yV,fK,[],[],[]⟩]) ⟨by simp only;omega,by simp only[lf];omega,Heap.le_trans l6 (Heap.le_trans (bT b6 l7) l9),r9,by simp only;omega,by simp only;omega,a9,by simp only[lf];omega,λm hm=>?_⟩ (by simp only;omega) (by simp only[lf];rfl);rcases List.mem_append.1 hm with hm|hm
       ·exact t6 m hm
       ·rw[List.mem_singleton.1 hm];exact hT
      ·conv=>whnf
       refine aj ?_;conv=>whnf
       exact dm (g7,(q7+1+1+1+1),k6-1,(b6,c6),ms) ⟨by simp only;omega,by simp only;omega,Heap.le_trans l6 (bT b6 l7),BJ,by simp only;omega,by simp only;omega,a6.aG kQ l7,n6,t6⟩ (by simp only;omega) rfl
   ·conv=>whnf
    refine aq ?_;conv=>whnf
    refine aj ?_;conv=>whnf
    refine bF r9 (by omega) (λxx xx0 xx1 xx2 gV=>?_);have zh:=xx1 (by omega);conv=>whnf
    refine aj ?_;conv=>whnf
    refine b8 ?_;conv=>whnf
    repeat' ((first|exact trivial|apply And.intro|refine aj ?_|refine bF gV (by omega) (λy y0 y1 y2 BJ=>?_))<;>conv=>whnf)
    all_goals
     obtain⟨fK,zL⟩:∃ z:Int,z=mn (1+k2.length+y) 3:=⟨_,rfl⟩
     have K3:1+k2.length<=fK/\fK<=3:=by rw[zL];unfold mn;split<;>omega
     rw[<-zL];conv=>whnf
     refine fm [0,5,6,7,8,9,12,13] [9,25] (λy:Nat × Bool=>y.1<=ms.length) (λy=>ms.length-y.1)
      (λy=>([.v (.pointer (some ⟨bb,0,none⟩)),.v (.int .i64 n),.r 25 3,.v (.slice (some ⟨b6,0,none⟩) ms.length c6),.v (.int .i64 k6),.l 9 0,.v (.bool y.2),.v (.int .i64 y.1)],[some (eo (1+xx) 1 (.slice s2 k2.length d2) yW fK),some (eo 0 0 (.slice s1 k1.length d1) yV 0++eo 0 0 (.slice s2 k2.length d2) yW 0++eo 0 0 a3 HS 0)],cN g7 bb vb (q7+1+1+1+1)))
      (0,false) (by simp only;omega) rfl ?_
     rintro⟨i,again⟩ hi;simp only at hi ⊢;conv=>whnf
     apply ax<;>intro g8;all_goals conv=>whnf
     ·have cG:i < ms.length:=by omega
      obtain⟨rec,e1,DY,⟨am,K4,_⟩,_⟩:=(a6.aG kQ l7).at cG;have DZ:=iI (bh (vb:=vb) (p:=(q7+1+1+1+1)) BJ.free) _ _ _ e1;subst K4;have rc:=aK DZ (i:=0) rfl;have rs:=aK DZ (i:=1) rfl;have Xz:rd (cN g7 bb vb (q7+1+1+1+1)) b6 (0+i*8)=_:=rc;cases again
      all_goals
       repeat' ((first|exact trivial|apply And.intro|apply ax<;>intro _|refine aq ?_|refine ptr ?_|refine ld Xz ?_|refine ld rs ?_)<;>conv=>whnf)
      all_goals
       refine aj ?_;conv=>whnf
       first
       | exact dm (i+1,true) (by simp only;omega) (by simp only;omega) rfl
       | exact dm (i+1,false) (by simp only;omega) (by simp only;omega) rfl
       | (refine dm (i+1,_) (by simp only;omega) (by simp only;omega) rfl)
     ·have hT:eY n ⟨(1+xx),1,k2,yW,fK,[],[],[]⟩:=⟨(.inr ⟨by simp only;omega,by simp only;omega,by simp only;omega,by simp only;omega⟩),n2,f2,t2,K3.2,by (simp[bX];split<;>simp<;>omega)⟩
      cases again
      ·conv=>whnf
       refine(a6.aG kQ l7).pK kQ (s:=⟨(1+xx),1,k2,yW,fK,[],[],[]⟩) r BJ rfl ⟨_,rfl,z2'.le (Heap.le_trans l6 (bT b6 l7)),rfl,rfl,rfl⟩ rfl rfl (by omega) rfl (Nat.le_of_ble_eq_true rfl) (λb9 c9 g9 a9 l9 r9=>?_);conv=>whnf
       refine aj ?_;conv=>whnf
       have lf:(ms++[(⟨(1+xx),1,k2,yW,fK,[],[],[]⟩:cB)]).length=ms.length+1:=by simp
       refine dm (g9,(q7+1+1+1+1),k6-1,(b9,c9),ms++[⟨(1+xx),1,k2,yW,fK,[],[],[]⟩]) ⟨by simp only;omega,by simp only[lf];omega,Heap.le_trans l6 (Heap.le_trans (bT b6 l7) l9),r9,by simp only;omega,by simp only;omega,a9,by simp only[lf];omega,λm hm=>?_⟩ (by simp only;omega) (by simp only[lf];rfl);rcases List.mem_append.1 hm with hm|hm
       ·exact t6 m hm
       ·rw[List.mem_singleton.1 hm];exact hT
      ·conv=>whnf
       refine aj ?_;conv=>whnf
       exact dm (g7,(q7+1+1+1+1),k6-1,(b6,c6),ms) ⟨by simp only;omega,by simp only;omega,Heap.le_trans l6 (bT b6 l7),BJ,by simp only;omega,by simp only;omega,a6.aG kQ l7,n6,t6⟩ (by simp only;omega) rfl
  ·conv=>whnf
   repeat' ((first|exact trivial|apply And.intro|refine aj ?_|refine bF r8 (by omega) (λy y0 y1 y2 BJ=>?_))<;>conv=>whnf)
   all_goals
    obtain⟨fK,zL⟩:∃ z:Int,z=mn (0+kN.length+y) 3:=⟨_,rfl⟩
    have K3:0+kN.length<=fK/\fK<=3:=by rw[zL];unfold mn;split<;>omega
    rw[<-zL];conv=>whnf
    refine fm [0,5,6,7,8,9,12,13] [9,25] (λy:Nat × Bool=>y.1<=ms.length) (λy=>ms.length-y.1)
     (λy=>([.v (.pointer (some ⟨bb,0,none⟩)),.v (.int .i64 n),.r 25 3,.v (.slice (some ⟨b6,0,none⟩) ms.length c6),.v (.int .i64 k6),.l 9 0,.v (.bool y.2),.v (.int .i64 y.1)],[some (eo (-1) 0 (.slice sN kN.length dN) K2 fK),some (eo 0 0 (.slice s1 k1.length d1) yV 0++eo 0 0 (.slice s2 k2.length d2) yW 0++eo 0 0 a3 HS 0)],cN g7 bb vb (q7+1+1)))
     (0,false) (by simp only;omega) rfl ?_
    rintro⟨i,again⟩ hi;simp only at hi ⊢;conv=>whnf
    apply ax<;>intro g8;all_goals conv=>whnf
    ·have cG:i < ms.length:=by omega
     obtain⟨rec,e1,DY,⟨am,K4,_⟩,_⟩:=(a6.aG kQ l7).at cG;have DZ:=iI (bh (vb:=vb) (p:=(q7+1+1)) BJ.free) _ _ _ e1;subst K4;have rc:=aK DZ (i:=0) rfl;have rs:=aK DZ (i:=1) rfl;have Xz:rd (cN g7 bb vb (q7+1+1)) b6 (0+i*8)=_:=rc;cases again
     all_goals
      repeat' ((first|exact trivial|apply And.intro|apply ax<;>intro _|refine aq ?_|refine ptr ?_|refine ld Xz ?_|refine ld rs ?_)<;>conv=>whnf)
     all_goals
      refine aj ?_;conv=>whnf
      first
      | exact dm (i+1,true) (by simp only;omega) (by simp only;omega) rfl
      | exact dm (i+1,false) (by simp only;omega) (by simp only;omega) rfl
      | (refine dm (i+1,_) (by simp only;omega) (by simp only;omega) rfl)
    ·have hT:eY n ⟨(-1),0,kN,K2,fK,[],[],[]⟩:=⟨(.inl ⟨rfl,rfl⟩),nN,fN,tN,K3.2,by (simp[bX];omega)⟩
     cases again
     ·conv=>whnf
      refine(a6.aG kQ l7).pK kQ (s:=⟨(-1),0,kN,K2,fK,[],[],[]⟩) r BJ rfl ⟨_,rfl,zN7,rfl,rfl,rfl⟩ rfl rfl (by omega) rfl (Nat.le_of_ble_eq_true rfl) (λb9 c9 g9 a9 l9 r9=>?_);conv=>whnf
      refine aj ?_;conv=>whnf
      have lf:(ms++[(⟨(-1),0,kN,K2,fK,[],[],[]⟩:cB)]).length=ms.length+1:=by simp
      refine dm (g9,(q7+1+1),k6-1,(b9,c9),ms++[⟨(-1),0,kN,K2,fK,[],[],[]⟩]) ⟨by simp only;omega,by simp only[lf];omega,Heap.le_trans l6 (Heap.le_trans (bT b6 l7) l9),r9,by simp only;omega,by simp only;omega,a9,by simp only[lf];omega,λm hm=>?_⟩ (by simp only;omega) (by simp only[lf];rfl);rcases List.mem_append.1 hm with hm|hm
      ·exact t6 m hm
      ·rw[List.mem_singleton.1 hm];exact hT
     ·conv=>whnf
      refine aj ?_;conv=>whnf
      exact dm (g7,(q7+1+1),k6-1,(b6,c6),ms) ⟨by simp only;omega,by simp only;omega,Heap.le_trans l6 (bT b6 l7),BJ,by simp only;omega,by simp only;omega,a6.aG kQ l7,n6,t6⟩ (by simp only;omega) rfl
 ·exact⟨_,_,rfl,a6.le,r6.free,by omega,by omega,_,_,_,rfl,a6,n6,by omega,t6⟩
def abb (v:Value):Prop:=∃ k a b:Int,v=.agg #[.int .i64 k,.int .i64 a,.int .i64 b]/\(0<=k/\k<=24)/\¬(8<=k/\k<=11)/\k≠22/\(-1000<=a/\a<=1000)/\-1000<=b/\b<=1000
theorem K5 {g:Heap} {bb:Nat} {vb:Value} {p:Int} {K:Value->Heap->Prop} {E:List PanicEntry->Heap->Prop} (r:bD g bb vb p) (hp:p<=100000000)
  (hk:∀ x q,-128<=x->x<=127->bD g bb vb q->p<=q->q<=p+2->K (.int .i64 x) (cN g bb vb q)):Go.Vc.Call prog 132 [.pointer (some ⟨bb,0,none⟩)] (cN g bb vb p) K E :=
 iC r (HP r hp) λv g' q hl r' h1 h2 hA=>by
  obtain⟨rfl,x,rfl,h3,h4⟩:=hA;exact hk x q h3 h4 r' h1 h2
theorem Rq {g:Heap} {bb:Nat} {vb:Value} {p:Int} {K:Value->Heap->Prop} {E:List PanicEntry->Heap->Prop} {cp:Option Addr} {n c:Nat} {cs:List dR} {x:Int} (r:bD g bb vb p) (hcs:fo g (.slice cp n c) cs) (ok:cj cs) (hx:0<=x/\x < cs.length)
  (hk:∀ g' p' c' (k:Nat),g.le g'->bD g' bb vb p->k<=100->K (.slice p' k c') (cN g' bb vb p)):Go.Vc.Call prog 98 [.slice cp n c,.int .i64 x] (cN g bb vb p) K E :=
 Ns r (lZ (x.toNat+1) cp n c cs x g hcs ok hx.1 hx.2 (by omega)) λv g' hl r' hA=>by
  obtain⟨B,own,_⟩:=hA;obtain⟨p',c',rfl,_⟩:=own.form;have:=fH ok hx.2;exact hk g' p' c' _ hl r' (by simp;omega)
theorem DC {g:Heap} {bb:Nat} {vb:Value} {p:Int} (us ms:List Value) (u:aU) (m:cB) (r:bD g bb vb p) (hp:p<=60000000) (hu:dL g us u) (hm:ee g ms m) (ok:cj u.J) (hl:m.locals<=3) (hn:u.methods.length<=100) :
  Dr prog 76 [.pointer (some ⟨bb,0,none⟩),.agg ⟨us⟩,.agg ⟨ms⟩] g bb vb p 10 λg' v=>abb v:=by
 obtain⟨cp,cc,q,d,rfl,hcs,fM,jN,hl2⟩:=hu.form;obtain⟨p1,c1,p2,c2,p3,c3,p4,c4,rfl,k1,k2,k3,k4,k5,k6,k7,k8,d1,d2,d3,d4⟩:=hm.form;have zm:=ok.2.1;have LD:=ok.1;refine bS au func76 F76 ZY rfl ?_;conv=>whnf
 refine bF r (by omega) (λc cx0 cx1 cx2 r1=>?_);have hc:=cx1 (by omega);conv=>whnf
 refine bF r1 (by omega) (λx x0 x1 x2 r2=>?_);have hx:=x1 (by omega);have LO:1<=mx m.locals 1/\mx m.locals 1<=3:=by unfold mx;split<;>omega
 have F7:∀ k:Nat,k<=100->1<=mx (k:Int) 1/\mx (k:Int) 1<=100:=λk hk=>by unfold mx;split<;>omega
 have XA:x=0\/x=1\/x=2\/x=3\/x=4\/x=5\/x=6\/x=7\/x=8\/x=9\/x=10\/x=11\/x=12\/x=13\/x=14\/x=15\/x=16\/x=17\/x=18\/x=19\/x=20\/x=21\/x=22\/x=23\/x=24\/x=25:=by omega
 clear x0 x1 x2 hx;rcases XA with rfl|rfl|rfl|rfl|rfl|rfl|rfl|rfl|rfl|rfl|rfl|rfl|rfl|rfl|rfl|rfl|rfl|rfl|rfl|rfl|rfl|rfl|rfl|rfl|rfl|rfl;all_goals
  conv=>whnf
  repeat' ((first
   | exact⟨_,_,rfl,Heap.le_refl g,r.free,by omega,by omega,_,_,_,rfl,⟨by omega,by omega⟩,by omega,by omega,⟨by omega,by omega⟩,by omega,by omega⟩
   | exact⟨_,_,rfl,sG,r3.free,by omega,by omega,_,_,_,rfl,⟨by omega,by omega⟩,by omega,by omega,⟨by omega,by omega⟩,by have:=F7 _ hk;omega,by have:=F7 _ hk;omega⟩
   | refine aj ?_
   | refine bF r2 (by omega) (λy y0 y1 y2 r4=>?_)
   | refine bF r3 (by omega) (λy y0 y1 y2 r4=>?_)
   | refine K5 r2 (by omega) (λy q y0 y1 r4 y2 y3=>?_)
   | refine Rq r2 hcs ok ⟨cx0,by omega⟩ (λg3 p' c' k sG r3 hk=>?_))<;>conv=>whnf)
 have hy:y=0\/y=1\/y=2:=by omega
 rcases hy with rfl|rfl|rfl;all_goals
  refine aq ?_;conv=>whnf
  exact⟨_,_,rfl,Heap.le_refl g,r.free,by omega,by omega,_,_,_,rfl,⟨by omega,by omega⟩,by omega,by omega,⟨by omega,by omega⟩,by omega,by omega⟩
theorem Nv {p:Prop} {v:Value} (hv:v=tf p):(v=.bool true/\p)\/(v=.bool false/\¬p):=by
 by_cases h:p
 ·exact .inl ⟨hv.trans (lW h),h⟩
 ·exact .inr ⟨hv.trans (eN h),h⟩
theorem K6 (us ms:List Value) (u:aU) (m:cB) (x:dX) (s:dH) (lp kp:Option Addr) (lc kc:Nat) (h:Heap) (hu:dL h us u) (hm:ee h ms m) (hV:HI u) (hI:si h s lp kp lc kc) (hs:uJ u.J.length m.locals s) (zB:0<=m.locals) (hl:m.locals<=3) (eU:cR u.J.length m.out)
  (hk:0<=x.kind/\x.kind<=24) (ha : -1000<=x.a/\x.a<=1000) (U : -1000<=x.b/\x.b<=1000) :
  bI prog 192 [.agg ⟨us⟩,.agg ⟨ms⟩,.agg #[.int .i64 x.kind,.int .i64 x.a,.int .i64 x.b],.agg #[.bool s.told,.slice lp s.locals.length lc,.slice kp s.stack.length kc]] h λv h'=>h.le h'/\∃ r,uG h' v r/\∀ y,r=some y->uJ u.J.length m.locals y/\y.told=s.told/\eH u {m with code:=[x]} x:=by
 obtain⟨p1,c1,p2,c2,p3,c3,p4,c4,rfl,k1,k2,k3,k4,k5,k6,k7,k8,d1,d2,d3,d4⟩:=hm.form;have Fw:=λXB h1 (l1:h.le h1) (LO:ee h1 XB {m with code:=[x]})=>xg us XB u {m with code:=[x]} x h1 (hu.le l1) LO hV.1 ⟨by unfold cL;omega,by unfold cL;omega⟩ zB;have fW:=λXB h1 (l1:h.le h1) (LO:ee h1 XB {m with code:=[x]}) (hx:eH u {m with code:=[x]} x)=>vU us XB u {m with code:=[x]} 0 s lp kp lc kc h1 (hu.le l1) LO hV (hI.le l1) hs hl (by simp) hx eU;have hval:=λ(hx:eH u {m with code:=[x]} x)=>uN (m:={m with code:=[x]}) hV hs hx;obtain⟨cp,cc,q,d,rfl,hcs,fM,jN,hl2⟩:=hu.form;generalize eH u {m with code:=[x]} x=IT at Fw fW hval;obtain⟨k,a,b⟩:=x;simp only at hk ha U;refine bS au func192 UE UF rfl ?_;conv=>whnf
 refine dI [.int .i64 k,.int .i64 a,.int .i64 b] rfl (λb1 h1 gI e1 l1 g1=>?_);have LO:ee h1 [.int .i64 m.cls,.int .i64 m.eL,.slice p1 m.args.length c1,.int .i64 m.out,.int .i64 m.locals,.slice (some ⟨b1,0,none⟩) 1 1,.slice p3 m.aL.length c3,.slice p4 m.catches.length c4] {m with code:=[⟨k,a,b⟩]}:=by
  refine⟨_,_,_,_,rfl,k1,k2,k3,k4,k5.le l1,?_,k7.le l1 (λ_ _ hx=>hx.le l1),k8.le l1 (λ_ _ hx=>hx)⟩;refine⟨by simp,_,_,rfl,by simp,.inr ⟨b1,0,rfl,λi y hi=>?_⟩⟩;have h0:i=0:=by
   have:=(List.getElem?_eq_some_iff.1 hi).1;simp at this;exact this
  subst h0;simp at hi;subst hi;exact⟨_,bP g1 3 0 (by simp),rfl,by show cL k;unfold cL;omega,by show cL a;unfold cL;omega,by show cL b;unfold cL;omega⟩
 have O4:=Fw _ h1 l1 LO;have Rr:=fW _ h1 l1 LO;obtain⟨tv,D1⟩:∃ tv,tv=tf IT:=⟨_,rfl⟩
 rw[<-D1]at O4;conv=>whnf
 refine ay O4 ?_;rcases Nv D1 with ⟨rfl,YQ⟩|⟨rfl,YQ⟩
 ·have dZ:=Rr YQ;have Wl:=hval YQ;have fin:∀ h2,h.le h2->h.le h2/\∃ r,uG h2 (.tuple #[.agg #[.bool s.told,.slice lp s.locals.length lc,.slice kp s.stack.length kc],.bool false]) r/\∀ y,r=some y->uJ u.J.length m.locals y/\y.told=s.told/\IT:=λh2 l2=>⟨l2,none,⟨_,_,_,_,_,_,_,rfl⟩,λy hy=>by cases hy⟩
  have XC:∀ v h2,h1.le h2->uG h2 v (stepT u {m with code:=[⟨k,a,b⟩]} ⟨k,a,b⟩ s)->h.le h2/\∃ r,uG h2 v r/\∀ y,r=some y->uJ u.J.length m.locals y/\y.told=s.told/\IT:=λv h2 l2 hr=>⟨Heap.le_trans l1 l2,_,hr,λy hy=>⟨(Wl y hy).1,(Wl y hy).2,YQ⟩⟩
  change bI _ _ _ _ (λv h'=>h1.le h'/\uG h' v (stepT u {m with code:=[⟨k,a,b⟩]} ⟨k,a,b⟩ s))at dZ
  conv=>whnf
  apply ax<;>intro g2;all_goals conv=>whnf
  ·apply ax<;>intro g3;all_goals conv=>whnf
   ·exact fin h1 l1
   ·refine aD dZ (λv h2 hh=>?_);refine hh.2.form.elim λa1 hf=>hf.elim λp1 hf=>hf.elim λn1 hf=>hf.elim λc1 hf=>hf.elim λp3 hf=>hf.elim λn3 hf=>hf.elim λc3 hf=>hf.elim λb1 hf=>?_;subst hf;conv=>whnf
    exact XC _ h2 hh.1 hh.2
  ·refine aD dZ (λv h2 hh=>?_);refine hh.2.form.elim λa1 hf=>hf.elim λp1 hf=>hf.elim λn1 hf=>hf.elim λc1 hf=>hf.elim λp3 hf=>hf.elim λn3 hf=>hf.elim λc3 hf=>hf.elim λb1 hf=>?_;subst hf;conv=>whnf
   exact XC _ h2 hh.1 hh.2
 ·conv=>whnf
  exact⟨l1,none,⟨_,_,_,_,_,_,_,rfl⟩,λy hy=>by cases hy⟩
def dx (x:dX):List Value:=[.int .i64 x.kind,.int .i64 x.a,.int .i64 x.b]
theorem yX {g:Heap} {bb:Nat} {vb:Value} {p:Int} (ms:List Value) (m:cB) (r:bD g bb vb p) (hp:p<=60000000) (hm:ee g ms m) :
  Dr prog 128 [.pointer (some ⟨bb,0,none⟩),.agg ⟨ms⟩] g bb vb p 3 λg' v=>∃ b x y,v=.slice (some ⟨b,0,none⟩) 2 2/\g b=none/\g' b=some (.cells (dx x++dx y).toArray 42 (0,0)) /\
   ((y=⟨23,0,0⟩/\x=⟨12,1,0⟩)\/(y=⟨22,0,0⟩/\(x=⟨2,0,0⟩\/∃ w,x=⟨1,w,0⟩/\-128<=w/\w<=127))):=by
 obtain⟨p1,c1,p2,c2,p3,c3,p4,c4,rfl,k1,k2,k3,k4,k5,k6,k7,k8,d1,d2,d3,d4⟩:=hm.form;refine bS au func128 SV SW rfl ?_;conv=>whnf
 apply ax<;>intro g1;all_goals conv=>whnf
 ·refine K5 r (by omega) (λw q w0 w1 r1 q0 q1=>?_);conv=>whnf
  refine bF r1 (by omega) (λx x0 x1 x2 r2=>?_);conv=>whnf
  apply ax<;>intro g2;all_goals conv=>whnf
  ·refine kP (dx ⟨12,1,0⟩++dx ⟨23,0,0⟩) r2 rfl (λb g3 U nb l3 r3 e3=>?_);conv=>whnf
   exact⟨_,_,rfl,l3,r3.free,by omega,by omega,b,_,_,rfl,U,e3,.inl ⟨rfl,rfl⟩⟩
  ·refine kP (dx ⟨1,w,0⟩++dx ⟨22,0,0⟩) r2 rfl (λb g3 U nb l3 r3 e3=>?_);conv=>whnf
   exact⟨_,_,rfl,l3,r3.free,by omega,by omega,b,_,_,rfl,U,e3,.inr ⟨rfl,.inr ⟨w,rfl,w0,w1⟩⟩⟩
 ·refine bF r (by omega) (λx x0 x1 x2 r2=>?_);conv=>whnf
  apply ax<;>intro g2;all_goals conv=>whnf
  ·refine kP (dx ⟨12,1,0⟩++dx ⟨23,0,0⟩) r2 rfl (λb g3 U nb l3 r3 e3=>?_);conv=>whnf
   exact⟨_,_,rfl,l3,r3.free,by omega,by omega,b,_,_,rfl,U,e3,.inl ⟨rfl,rfl⟩⟩
  ·refine kP (dx ⟨2,0,0⟩++dx ⟨22,0,0⟩) r2 rfl (λb g3 U nb l3 r3 e3=>?_);conv=>whnf
   exact⟨_,_,rfl,l3,r3.free,by omega,by omega,b,_,_,rfl,U,e3,.inr ⟨rfl,.inl rfl⟩⟩
def fC (h:Heap) (L:List Nat):Heap:=λx=>if x∈L then none else h x
theorem mR {h:Heap} {L:List Nat} {x:Nat} (hx:x∈L):fC h L x=none:=by unfold fC;rw[if_pos hx]
theorem gu {h:Heap} {L:List Nat} {x:Nat} (hx:x ∉ L):fC h L x=h x:=by unfold fC;rw[if_neg hx]
theorem DD (h:Heap) (L:List Nat):(fC h L).le h:=λx o hx=>by
 by_cases e:x∈L
 ·rw[mR e]at hx;cases hx
 ·rw[gu e]at hx;exact hx
theorem dz {h h':Heap} (L:List Nat) (hl:h.le h'):(fC h L).le (fC h' L):=λx o hx=>by
 by_cases e:x∈L
 ·rw[mR e]at hx;cases hx
 ·rw[gu e]at hx ⊢;exact hl x o hx
theorem yY {h0 h:Heap} {L:List Nat} (hl:h0.le h) (U:∀ b∈L,h0 b=none):h0.le (fC h L):=λx o hx=>by
 by_cases e:x∈L
 ·rw[U x e]at hx;cases hx
 ·rw[gu e];exact hl x o hx
theorem Nw {h h':Heap} {L:List Nat} (hl:(fC h L).le (fC h' L)) (U:∀ b∈L,h' b=h b):h.le h':=λx o hx=>by
 by_cases e:x∈L
 ·rw[U x e];exact hx
 ·have:=hl x o (by rw[gu e];exact hx);rwa [gu e]at this
theorem DE {h h':Heap} {L L':List Nat} (ev:Ev h h' L L'):(fC h L).le (fC h' L'):=λx o hx=>by
 by_cases e:x∈L
 ·rw[mR e]at hx;cases hx
 ·rw[gu e]at hx;have hn:x ∉ L':=λhm=>by
   rcases ev.new x hm with h1|h1
   ·exact e h1
   ·rw[hx]at h1;cases h1
  rw[gu hn,ev.ic x (by rw[hx];simp) e];exact hx
theorem Fx {P:Program} {f:FuncId} {args:List Value} {h:Heap} {L:List Nat} {R:Value->Heap->Prop} (U:∀ b∈L,∃ o,h b=some o) (hc:bI P f args (fC h L) R) :
  bI P f args h λv h'=>(∀ b∈L,h' b=h b)/\R v (fC h' L):=by
 intro w hv;refine(hc w (λb' o' hx=>hv b' o' (DD h L b' o' hx))).mono ?_;rintro e w' ⟨h1,m,hm⟩;have iS:∀ b∈L,b < w.heap.size:=λb hx=>by obtain⟨o,ho⟩:=U b hx;exact ey (hv b o ho)
 have Om:∀ b∈L,h1 b=none:=λb XD=>by
  cases hx:h1 b with
  | none=>rfl
  | some x =>
   rcases m.xd b (by rw[hx];simp)with h2|h2
   ·exact absurd (mR XD) h2
   ·have:=iS b XD;omega
 let h':Heap:=λx=>if x∈L then h x else h1 x
 have fI:∀ x,x∈L->h' x=h x:=λx hx=>by simp[h',hx]
 have eU:∀ x,x ∉ L->h' x=h1 x:=λx hx=>by simp[h',hx]
 have hh:fC h' L=h1:=by
  funext x
  by_cases e:x∈L
  ·rw[mR e,Om x e]
  ·rw[gu e,eU x e]
 have mv:cP h w h' w':=by
  refine⟨λx y hx=>?_,λx hx hn=>?_,λx hx=>?_,m.size,m.fz,m.out⟩
  ·by_cases e:x∈L
   ·have hk:=m.aG x (iS x e) (mR e);rw[fI x e]at hx;rw[hk];exact hv x y hx
   ·rw[eU x e]at hx;exact m.view x y hx
  ·have W3:fC h L x=none:=by
    by_cases e:x∈L
    ·exact mR e
    ·rw[gu e];exact hn
   exact m.aG x hx W3
  ·by_cases e:x∈L
   ·left;obtain⟨o,ho⟩:=U x e;rw[ho];simp
   ·rw[eU x e]at hx;rcases m.xd x hx with h2|h2
    ·left;rwa [gu e]at h2
    ·exact .inr h2
 refine⟨h',mv,?_⟩;cases e with
 | returned v=>exact⟨fI,by rw[hh];exact hm⟩
 | panicked c=>exact hm.elim
 | outgrown=>exact hm.elim
theorem K7 {P:Program} {f:FuncId} {args:List Value} {g:Heap} {L:List Nat} {bb:Nat} {vb:Value} {p:Int} {R:Value->Heap->Prop} {K:Value->Heap->Prop} {E:List PanicEntry->Heap->Prop} (r:bD g bb vb p) (hL:∀ b∈L,∃ o,g b=some o) (hc:bI P f args (fC g L) λv g'=>(fC g L).le g'/\R v g')
  (hk:∀ v g',g.le g'->bD g' bb vb p->R v (fC g' L)->K v (cN g' bb vb p)):Go.Vc.Call P f args (cN g bb vb p) K E :=
 Ns r (bI.mono (Fx hL hc) λv g' hh=>⟨Nw hh.2.1 hh.1,hh.2.2⟩) hk
abbrev DF (h:Heap) (v:Value) (l:List dX) (B:List Nat):Prop:=cn 3 h v (l.map dx) B
def uT (u:aU) (m:cB) (x:dX):Prop:=(eH u {m with code:=[x]} x/\¬(8<=x.kind/\x.kind<=11)/\x.kind≠22/\x.kind≠23)\/((8<=x.kind/\x.kind<=10)/\(-3<=x.a/\x.a<=-1)/\x.b=0)
structure kD (g0 g:Heap) (u:aU) (m:cB) (code:List dX) (pc:Option Addr) (cc:Nat) (Bc:List Nat) (el:List Int) (pe:Option Addr) (ce:Nat) (Be:List Nat):Prop where
 le:g0.le g
 oc:DF g (.slice pc code.length cc) code Bc
 oe:dV g (.slice pe el.length ce) el Be
 nd:Nd (Bc++Be)
 fr:∀ b∈Bc++Be,g0 b=none
 ins:∀ x∈code,uT u m x
 emp:∀ t∈el,0<=t/\t<=(code.length:Int)
 lel:el.length<=1000
theorem kD.in {g0 g:Heap} {u:aU} {m:cB} {code:List dX} {pc:Option Addr} {cc:Nat} {Bc:List Nat} {el:List Int} {pe:Option Addr} {ce:Nat} {Be:List Nat} (h:kD g0 g u m code pc cc Bc el pe ce Be):∀ b∈Bc++Be,∃ o,g b=some o :=
 λb U=>(List.mem_append.1 U).elim (h.oc.in b) (h.oe.in b)
theorem kD.aG {g0 g g':Heap} {u:aU} {m:cB} {code:List dX} {pc:Option Addr} {cc:Nat} {Bc:List Nat} {el:List Int} {pe:Option Addr} {ce:Nat} {Be:List Nat} (h:kD g0 g u m code pc cc Bc el pe ce Be) (hl:g.le g'):kD g0 g' u m code pc cc Bc el pe ce Be :=
 ⟨Heap.le_trans h.le hl,h.oc.aG (cC.of_le hl _),h.oe.aG (cC.of_le hl _),h.nd,h.fr,h.ins,h.emp,h.lel⟩
theorem vW {A B:List Nat} (h:Nd (A++B)):∀ b∈A,b ∉ B:=λb ha U=>by
 have:=h b;have:=List.count_pos_iff.2 ha;have:=List.count_pos_iff.2 U;simp only[List.count_append]at *;omega
theorem kD.app {g0 g:Heap} {u:aU} {m:cB} {code:List dX} {pc:Option Addr} {cc:Nat} {Bc:List Nat} {el:List Int} {pe:Option Addr} {ce:Nat} {Be:List Nat} {bb:Nat} {vb:Value} {q0 q:Int} {n bytes:Nat} {zero:List Value} {ty:TypeId} {K:Value->Heap->Prop} (h:kD g0 g u m code pc cc Bc el pe ce Be) (r0:bD g0 bb vb q0) (r:bD g bb vb q) (x:dX) (hx:uT u m x) (hn:n=code.length) (hl:code.length<=1000) (hz:zero.length=3) (U:bytes<=1000)
  (hk:∀ p' c' g' B',kD g0 g' u m (code++[x]) p' c' B' el pe ce Be->(fC g (Bc++Be)).le (fC g' (B'++Be))->bD g' bb vb q->K (.slice p' (code.length+1) c') (cN g' bb vb q)):App bytes 3 zero ty (cN g bb vb q) pc n cc 1 (dx x) K:=by
 subst hn;have fI:=h.in;have hm:((code.map dx).length + [dx x].length)*bytes<=1001*1000:=Nat.mul_le_mul (by simp;omega) U;refine Go.Proofs.pK r0 r (ys:=[dx x]) h.oc (λb U=>h.fr b (by simp[U])) h.le (by simp) rfl (by simp[dx]) rfl hz (by omega) (by simp;omega) ?_;intro v' g' B' k1 k2 k3 k4 k5 k6;have HQ:DF g' v' (code++[x]) B':=by unfold DF;rw[List.map_append];exact k3
 obtain⟨p',c',rfl,_⟩:=cn.form HQ;have rM:((code++[x]).map dx).length=code.length+1:=by simp
 rw[rM]at HQ ⊢;have ev:Ev g g' Bc B':=⟨λb U hs=>k5 b hs U,k6⟩
 have evL:Ev g g' (Bc++Be) (B'++Be):=⟨λb U hs=>k5 b (λhm=>hs (by simp[hm])) U,λb U=>by
  rcases List.mem_append.1 U with h1|h1
  ·exact(k6 b h1).imp (λh2=>by simp[h2]) id
  ·exact .inl (by simp[h1])⟩
 refine hk p' c' g' B' ⟨k1,by simpa using HQ,h.oe.aG (ev.aG λb U hc=>vW h.nd b hc U),?_,λb U=>?_,λy hy=>?_,λt ht=>?_,h.lel⟩ (DE evL) k2
 ·have:=Nd.swap (A:=Be) (X:=Bc) (X':=B') (h.nd.perm λa=>by simp only[List.count_append];omega) HQ.nd (λb U=>(k6 b U).imp id λhn hm=>by
   obtain⟨o,ho⟩:=fI b (by simp[hm]);rw[hn]at ho;cases ho)
  exact this.perm λa=>by simp only[List.count_append];omega
 ·rcases List.mem_append.1 U with h1|h1
  ·exact k4 b h1
  ·exact h.fr b (by simp[h1])
 ·rcases List.mem_append.1 hy with h1|h1
  ·exact h.ins y h1
  ·rw[List.mem_singleton.1 h1];exact hx
 ·have:=h.emp t ht;simp;omega
theorem kD.abc {g0 g:Heap} {u:aU} {m:cB} {code:List dX} {pc:Option Addr} {cc:Nat} {Bc:List Nat} {el:List Int} {pe:Option Addr} {ce:Nat} {Be:List Nat} {bb:Nat} {vb:Value} {q0 q:Int} {n:Nat} {ty:TypeId} {K:Value->Heap->Prop} (h:kD g0 g u m code pc cc Bc el pe ce Be) (r0:bD g0 bb vb q0) (r:bD g bb vb q) (t:Int) (ht:0<=t/\t<=(code.length:Int)) (hn:n=el.length) (hl:el.length<=999)
  (hk:∀ p' c' g' B',kD g0 g' u m code pc cc Bc (el++[t]) p' c' B'->(fC g (Bc++Be)).le (fC g' (Bc++B'))->bD g' bb vb q->K (.slice p' (el.length+1) c') (cN g' bb vb q)):App 8 1 [.int .i64 0] ty (cN g bb vb q) pe n ce 1 [.int .i64 t] K:=by
 subst hn;have fI:=h.in;refine xq (k:=[t]) (g0:=g0) r0 r h.oe (λb U=>h.fr b (by simp[U])) h.le rfl (by simp;omega) (λp' c' g' B' k1 k2 k3 k4 ev=>?_);have rM:(el++[t]).length=el.length+1:=by simp
 rw[rM]at k3 ⊢;have evL:Ev g g' (Bc++Be) (Bc++B'):=ev.more Bc;refine hk p' c' g' B' ⟨k1,h.oc.aG (ev.aG λb U hc=>vW h.nd b U hc),by rw[rM];exact k3,?_,λb U=>?_,h.ins,λy hy=>?_,by rw[rM];omega⟩ (DE evL) k2
 ·exact Nd.swap h.nd k3.nd (λb U=>(ev.new b U).imp id λhn hm=>by
   obtain⟨o,ho⟩:=fI b (by simp[hm]);rw[hn]at ho;cases ho)
 ·rcases List.mem_append.1 U with h1|h1
  ·exact h.fr b (by simp[h1])
  ·exact k4 b h1
 ·rcases List.mem_append.1 hy with h1|h1
  ·exact h.emp y h1
  ·rw[List.mem_singleton.1 h1];exact ht
theorem Rs {a b:Int} {K:Int->Prop} (a0:0<=a) (a1:a < 3) (b0:0<=b) (b1:b < 2) (hk:∀ c,0<=c->c<=2->K c):Ar .i64 (a*b) K:=by
 have U:b=0\/b=1:=by omega
 rcases U with rfl|rfl
 ·exact IS (by omega) (by omega) (hk _ (by omega) (by omega))
 ·exact IS (by omega) (by omega) (hk _ (by omega) (by omega))
theorem HT {g:Heap} {bb:Nat} {vb:Value} {p:Int} (us ms:List Value) (u:aU) (m:cB) (zF:Int) (r:bD g bb vb p) (hp:p<=50000000) (hu:dL g us u) (hm:ee g ms m) (hV:HI u) (hn:u.methods.length<=100) (hH:eY u.J.length m) (Gt:0<=zF/\zF<=20) :
  Dr prog 167 [.pointer (some ⟨bb,0,none⟩),.agg ⟨us⟩,.agg ⟨ms⟩,.int .i64 zF] g bb vb p 2000 λg' v=>∃ code pc cc Bc el pe ce Be,v=.tuple #[.slice pc code.length cc,.slice pe el.length ce]/\kD g g' u m code pc cc Bc el pe ce Be/\(code.length:Int)<=zF:=by
 have ok:=hV.1;have zm:=ok.2.1;have sG:=hH.2.2.2.2.1;have zB:0<=m.locals:=by have:=hH.2.2.2.2.2;omega
 have eU:=hH.2.2.1;have yU:=λhh (hl:g.le hh)=>tw us ms m u.J.length hh (hm.le hl) hH zm;have Fw:=λg' q (hl:g.le g') (r':bD g' bb vb q) hq=>DC us ms u m r' hq (hu.le hl) (hm.le hl) ok sG hn;have XF:=λx s a b c d hh (hl:g.le hh) hI hs hk ha U=>K6 us ms u m x s a b c d hh (hu.le hl) (hm.le hl) hV hI hs zB sG eU hk ha U;obtain⟨cp,cc,q,d,rfl,hcs,fM,jN,hl2⟩:=hu.form;obtain⟨p1,c1,p2,c2,p3,c3,p4,c4,rfl,k1,k2,k3,k4,k5,k6,k7,k8,d1,d2,d3,d4⟩:=hm.form;refine bS au func167 T4 T5 rfl ?_;conv=>whnf
 refine kP [] r rfl (λbc g1 YM R7 l1 r1 e1=>?_);conv=>whnf
 refine kP [] r1 rfl (λbe g2 VW nbe l2 r2 e2=>?_);conv=>whnf
 have F6:=Heap.le_trans l1 l2;have cD:bc≠be:=by rintro rfl;rw[VW]at e1;cases e1
 have uY:kD g g2 u m [] (some ⟨bc,0,none⟩) 0 [bc] [] (some ⟨be,0,none⟩) 0 [be]:=by
  refine⟨F6,dP (l2 bc _ e1),dP e2,λa=>?_,λb U=>?_,by simp,by simp,by simp⟩
  ·simp only[List.count_append,List.count_cons,List.count_nil];by_cases h1:bc=a
   ·have:¬be=a:=by omega
    simp[h1,this]
   ·simp[h1];split<;>omega
  ·simp at U;rcases U with rfl|rfl
   ·exact YM
   ·exact bp l1 VW
 refine K7 r2 uY.in (yU _ (yY F6 uY.fr)) (λv g3 l3 r3 hr=>?_);refine hr.elim λq1 hr=>hr.elim λx1 hr=>hr.elim λq2 hr=>hr.elim λx2 hr=>?_;have hv:=hr.1;subst hv;have OY:=hr.2;have rU:=uY.aG l3;conv=>whnf
 refine fm [0,3,5,6,10,11,12,13] [5,6,12] (λy:(Heap × Int × Nat) × (List dX × Option Addr × Nat × List Nat) × (List Int × Option Addr × Nat × List Nat) × (dH × Option Addr × Nat × Option Addr × Nat)=>y.1.2.2<=40/\bD y.1.1 bb vb y.1.2.1/\p<=y.1.2.1/\y.1.2.1<=p+2+30*(y.1.2.2:Int)/\kD g y.1.1 u m y.2.1.1 y.2.1.2.1 y.2.1.2.2.1 y.2.1.2.2.2 y.2.2.1.1 y.2.2.1.2.1 y.2.2.1.2.2.1 y.2.2.1.2.2.2/\si (fC y.1.1 (y.2.1.2.2.2++y.2.2.1.2.2.2)) y.2.2.2.1 y.2.2.2.2.1 y.2.2.2.2.2.2.1 y.2.2.2.2.2.1 y.2.2.2.2.2.2.2/\uJ u.J.length m.locals y.2.2.2.1/\(y.2.1.1.length:Int)+y.2.2.2.1.stack.length<=zF/\y.2.2.1.1.length<=y.1.2.2) (λy=>40-y.1.2.2)
  (λy=>([.v (.pointer (some ⟨bb,0,none⟩)),.v (.int .i64 zF),.l 5 0,.l 6 0,.v (.slice y.2.1.2.1 y.2.1.1.length y.2.1.2.2.1),.v (.slice y.2.2.1.2.1 y.2.2.1.1.length y.2.2.1.2.2.1),.l 12 0,.v (.int .i64 y.1.2.2)],
   [some [.slice cp u.J.length cc,.slice q u.methods.length d],some [.int .i64 m.cls,.int .i64 m.eL,.slice p1 m.args.length c1,.int .i64 m.out,.int .i64 m.locals,.slice p2 m.code.length c2,.slice p3 m.aL.length c3,.slice p4 m.catches.length c4],some [.bool y.2.2.2.1.told,.slice y.2.2.2.2.1 y.2.2.2.1.locals.length y.2.2.2.2.2.1,.slice y.2.2.2.2.2.2.1 y.2.2.2.1.stack.length y.2.2.2.2.2.2.2]],cN y.1.1 bb vb y.1.2.1))
  ((g3,p,0),([],some ⟨bc,0,none⟩,0,[bc]),([],some ⟨be,0,none⟩,0,[be]),(jl m,q1,x1,q2,x2)) ⟨by simp only;omega,r3,by simp only;omega,by simp only;omega,rU,OY,uK hH zm,by simp[jl];omega,by simp⟩ rfl ?_
 rintro⟨⟨g4,q4,i⟩,⟨code,pc,kc,Bc⟩,⟨el,pe,ke,Be⟩,⟨s,y1,y2,y3,y4⟩⟩ ⟨hi,r4,p7,rV,hB,hI,hs,hlen,J4⟩;simp only at hi r4 p7 rV hB hI hs hlen J4 ⊢;conv=>whnf
 apply ax<;>intro g5;all_goals conv=>whnf
 ·have hs4:=hs.len;refine aj ?_;conv=>whnf
  apply ax<;>intro g6;all_goals conv=>whnf
  ·apply ax<;>intro g7;all_goals conv=>whnf
   ·refine hB.abc r r4 code.length ⟨by omega,by omega⟩ rfl (by omega) (λYR YS g8 R8 Gu l8 r8=>?_);conv=>whnf
    repeat' ((first|refine b8 ?_|refine bL ?_|refine cU ?_|refine cF ?_)<;>conv=>whnf)
    refine iC (by assumption) (Fw g8 _ Gu.le (by assumption) (by omega)) (λv g9 q9 l9 r9 h1 h2 hA=>?_);refine hA.elim λkk hA=>hA.elim λaa hA=>hA.elim λbx hA=>?_;have hv:=hA.1;subst hv;have hA:=hA.2;have Nx:=Gu.aG l9;have hc:=XF ⟨kk,aa,bx⟩ s y1 y3 y2 y4 (fC g9 (Bc++R8)) (yY Nx.le Nx.fr) ((hI.le l8).le (dz _ l9)) hs hA.1 hA.2.2.2.1 hA.2.2.2.2;conv=>whnf
    refine K7 r9 Nx.in hc (λv Cc D5 gV hr=>?_);have BK:=Nx.aG D5;refine hr.elim λres hr=>?_;cases res with
    | none =>
     have hr:=hr.1;refine hr.elim λw1 hr=>hr.elim λw2 hr=>hr.elim λw3 hr=>hr.elim λw4 hr=>hr.elim λw5 hr=>hr.elim λw6 hr=>hr.elim λw7 hv=>?_;subst hv;conv=>whnf
     refine aj ?_;conv=>whnf
     exact dm ((Cc,q9,i+1),(code,pc,kc,Bc),(el++[(code.length:Int)],YR,YS,R8),(s,y1,y2,y3,y4)) ⟨by simp only;omega,gV,by simp only;omega,by simp only;omega,BK,((hI.le l8).le (dz _ l9)).le (dz _ D5),hs,hlen,by (simp;omega)⟩ (by simp only;omega) (by simp only[List.length_append];rfl)
    | some y =>
     have hy:=hr.2 y rfl;have hr:=hr.1;refine hr.elim λw1 hr=>hr.elim λw2 hr=>hr.elim λw3 hr=>hr.elim λw4 hr=>?_;have hv:=hr.1;subst hv;have Rt:si (fC Cc (Bc++R8)) y w1 w3 w2 w4:=hr.2;have hy4:=hy.1.len;have same:∀(t:List Slot × List (Option (List Value)) × Heap),True:=λ_=>trivial;conv=>whnf
     refine aj ?_;conv=>whnf
     refine aj ?_;conv=>whnf
     apply ax<;>intro gm;all_goals conv=>whnf
     ·apply aV<;>intro gk;all_goals conv=>whnf
      ·refine BK.app r gV ⟨kk,aa,bx⟩ (.inl ⟨hy.2.2,hA.2.1,hA.2.2.1,gk⟩) rfl (by omega) rfl (Nat.le_of_ble_eq_true rfl) (λNy D6 Ru Nz Fy XG BJ=>?_);conv=>whnf
       refine aj ?_;conv=>whnf
       exact dm ((Ru,q9,i+1),(code++[⟨kk,aa,bx⟩],Ny,D6,Nz),(el++[(code.length:Int)],YR,YS,R8),(y,w1,w2,w3,w4)) ⟨by simp only;omega,BJ,by simp only;omega,by simp only;omega,Fy,Rt.le XG,hy.1,by simp only[List.length_append,List.length_singleton];omega,by (simp;omega)⟩ (by simp only;omega) (by simp only[List.length_append];rfl)
      ·refine aj ?_;conv=>whnf
       exact dm ((Cc,q9,i+1),(code,pc,kc,Bc),(el++[(code.length:Int)],YR,YS,R8),(s,y1,y2,y3,y4)) ⟨by simp only;omega,gV,by simp only;omega,by simp only;omega,BK,((hI.le l8).le (dz _ l9)).le (dz _ D5),hs,hlen,by (simp;omega)⟩ (by simp only;omega) (by simp only[List.length_append];rfl)
     ·refine aj ?_;conv=>whnf
      exact dm ((Cc,q9,i+1),(code,pc,kc,Bc),(el++[(code.length:Int)],YR,YS,R8),(s,y1,y2,y3,y4)) ⟨by simp only;omega,gV,by simp only;omega,by simp only;omega,BK,((hI.le l8).le (dz _ l9)).le (dz _ D5),hs,hlen,by (simp;omega)⟩ (by simp only;omega) (by simp only[List.length_append];rfl)
   ·have hI0:=hI.le (DD _ _);have Ij:s.stack.length-1 < s.stack.length:=by omega
    obtain⟨b1,o1,w1,_⟩:=hI0.2.at Ij;have cA:∀(j:Nat) (qq:Int) (hj:j < s.stack.length),rd (cN g4 bb vb qq) b1 (o1+j*1)=some (.int .i64 s.stack[j]):=λj qq hj=>by
     obtain⟨b2,o2,w2,a2⟩:=hI0.2.at hj;rw[w1]at w2;simp only[Option.some.injEq,Addr.mk.injEq]at w2;obtain⟨rfl,rfl,_⟩:=w2;exact aX (bh r4.free) a2
    repeat' ((first|refine b8 ?_|refine bL ?_|refine cU ?_|refine cF ?_|apply ax<;>intro _|refine bF (by assumption) (by omega) (λz z0 z1 z2 r5=>?_)|refine aj ?_|refine aq ?_|refine aO w1 ?_|refine ld (cA _ _ (by omega)) ?_|refine Ro (by assumption) (tY _ _) ?_|refine Rs (by omega) (by omega) (by omega) (by omega) (λw w0 w1=>?_)|refine hB.app r (by assumption) ⟨_,_,0⟩ (.inr ⟨⟨by simp only;omega,by simp only;omega⟩,⟨by simp only;omega,by simp only;omega⟩,rfl⟩) rfl (by omega) rfl (Nat.le_of_ble_eq_true rfl) (λNy D6 g8 Nz Gu l8 r8=>?_)|refine kP [] r8 rfl (λbn g9 hbn nbn l9 r9 e9=>?_))<;>conv=>whnf)
    all_goals first
     | (refine dm ((g9,_,i+1),(_,Ny,D6,Nz),(el,pe,ke,Be),(⟨s.told,s.locals,[]⟩,y1,y2,some ⟨bn,0,none⟩,0)) ⟨by simp only;omega,r9,by simp only;omega,by simp only;omega,Gu.aG l9,⟨(hI.1.le l8).le (dz _ l9),hY _ _ _⟩,⟨hs.loc,hs.fK,λt ht=>(by cases ht),by simp⟩,by simp;omega,by simp only;omega⟩ (by simp only;omega) (by simp only[List.length_append];rfl);done)
     | skip
    all_goals
     refine iC (by assumption) (Fw g4 _ hB.le (by assumption) (by omega)) (λv g9 q9 l9 r9 h1 h2 hA=>?_);refine hA.elim λkk hA=>hA.elim λaa hA=>hA.elim λbx hA=>?_;have hv:=hA.1;subst hv;have hA:=hA.2;have Nx:=hB.aG l9;have hc:=XF ⟨kk,aa,bx⟩ s y1 y3 y2 y4 (fC g9 (Bc++Be)) (yY Nx.le Nx.fr) (hI.le (dz _ l9)) hs hA.1 hA.2.2.2.1 hA.2.2.2.2;conv=>whnf
     refine K7 r9 Nx.in hc (λv Cc D5 gV hr=>?_);have BK:=Nx.aG D5;refine hr.elim λres hr=>?_;cases res with
     | none =>
      have hr:=hr.1;refine hr.elim λw1 hr=>hr.elim λw2 hr=>hr.elim λw3 hr=>hr.elim λw4 hr=>hr.elim λw5 hr=>hr.elim λw6 hr=>hr.elim λw7 hv=>?_;subst hv;conv=>whnf
      refine aj ?_;conv=>whnf
      exact dm ((Cc,q9,i+1),(code,pc,kc,Bc),(el,pe,ke,Be),(s,y1,y2,y3,y4)) ⟨by simp only;omega,gV,by simp only;omega,by simp only;omega,BK,(hI.le (dz _ l9)).le (dz _ D5),hs,hlen,by (simp only;omega)⟩ (by simp only;omega) rfl
     | some y =>
      have hy:=hr.2 y rfl;have hr:=hr.1;refine hr.elim λw1 hr=>hr.elim λw2 hr=>hr.elim λw3 hr=>hr.elim λw4 hr=>?_;have hv:=hr.1;subst hv;have Rt:si (fC Cc (Bc++Be)) y w1 w3 w2 w4:=hr.2;have hy4:=hy.1.len;have same:∀(t:List Slot × List (Option (List Value)) × Heap),True:=λ_=>trivial;conv=>whnf
      refine aj ?_;conv=>whnf
      refine aj ?_;conv=>whnf
      apply ax<;>intro gm;all_goals conv=>whnf
      ·apply aV<;>intro gk;all_goals conv=>whnf
       ·refine BK.app r gV ⟨kk,aa,bx⟩ (.inl ⟨hy.2.2,hA.2.1,hA.2.2.1,gk⟩) rfl (by omega) rfl (Nat.le_of_ble_eq_true rfl) (λNy D6 Ru Nz Fy XG BJ=>?_);conv=>whnf
        refine aj ?_;conv=>whnf
        exact dm ((Ru,q9,i+1),(code++[⟨kk,aa,bx⟩],Ny,D6,Nz),(el,pe,ke,Be),(y,w1,w2,w3,w4)) ⟨by simp only;omega,BJ,by simp only;omega,by simp only;omega,Fy,Rt.le XG,hy.1,by simp only[List.length_append,List.length_singleton];omega,by (simp only;omega)⟩ (by simp only;omega) (by simp only[List.length_append];rfl)
       ·refine aj ?_;conv=>whnf
        exact dm ((Cc,q9,i+1),(code,pc,kc,Bc),(el,pe,ke,Be),(s,y1,y2,y3,y4)) ⟨by simp only;omega,gV,by simp only;omega,by simp only;omega,BK,(hI.le (dz _ l9)).le (dz _ D5),hs,hlen,by (simp only;omega)⟩ (by simp only;omega) rfl
      ·refine aj ?_;conv=>whnf
       exact dm ((Cc,q9,i+1),(code,pc,kc,Bc),(el,pe,ke,Be),(s,y1,y2,y3,y4)) ⟨by simp only;omega,gV,by simp only;omega,by simp only;omega,BK,(hI.le (dz _ l9)).le (dz _ D5),hs,hlen,by (simp only;omega)⟩ (by simp only;omega) rfl
  ·have hs9:=hs.len;refine fm [10,11,18] [] (λy:Heap × Int × (List dX × Option Addr × Nat × List Nat)=>0<=y.2.1/\y.2.1<=4/\bD y.1 bb vb q4/\kD g y.1 u m y.2.2.1 y.2.2.2.1 y.2.2.2.2.1 y.2.2.2.2.2 el pe ke Be/\(y.2.2.1.length:Int)+y.2.1<=zF) (λy=>y.2.1.toNat)
    (λy=>([.v (.slice y.2.2.2.1 y.2.2.1.length y.2.2.2.2.1),.v (.slice pe el.length ke),.v (.int .i64 y.2.1)],[],cN y.1 bb vb q4))
    (g4,s.stack.length,(code,pc,kc,Bc)) ⟨by simp only;omega,by simp only;omega,r4,hB,by simp only;omega⟩ rfl ?_
   rintro⟨g8,P9,⟨DG,pc8,kc8,Bc8⟩⟩ ⟨ha,U,r8,Gu,L8⟩;simp only at ha U r8 Gu L8 ⊢;conv=>whnf
   apply ax<;>intro ge;all_goals conv=>whnf
   ·refine Gu.app r r8 ⟨5,0,0⟩ (.inl ⟨(aI (p:=0) (q:=0) rfl).2 ⟨rfl,rfl⟩,by simp,by simp,by simp⟩) rfl (by omega) rfl (Nat.le_of_ble_eq_true rfl) (λNy D6 Ru Nz Fy XG BJ=>?_);conv=>whnf
    refine aj ?_;conv=>whnf
    exact dm (Ru,P9-1,(DG++[⟨5,0,0⟩],Ny,D6,Nz)) ⟨by simp only;omega,by simp only;omega,BJ,Fy,by simp only[List.length_append,List.length_singleton];omega⟩ (by simp only;omega) (by simp only[List.length_append];rfl)
   ·exact⟨_,_,rfl,Gu.le,r8.free,by omega,by omega,DG,pc8,kc8,Bc8,el,pe,ke,Be,rfl,Gu,by omega⟩
 ·have hs9:=hs.len;refine fm [10,11,18] [] (λy:Heap × Int × (List dX × Option Addr × Nat × List Nat)=>0<=y.2.1/\y.2.1<=4/\bD y.1 bb vb q4/\kD g y.1 u m y.2.2.1 y.2.2.2.1 y.2.2.2.2.1 y.2.2.2.2.2 el pe ke Be/\(y.2.2.1.length:Int)+y.2.1<=zF) (λy=>y.2.1.toNat)
   (λy=>([.v (.slice y.2.2.2.1 y.2.2.1.length y.2.2.2.2.1),.v (.slice pe el.length ke),.v (.int .i64 y.2.1)],[],cN y.1 bb vb q4))
   (g4,s.stack.length,(code,pc,kc,Bc)) ⟨by simp only;omega,by simp only;omega,r4,hB,by simp only;omega⟩ rfl ?_
  rintro⟨g8,P9,⟨DG,pc8,kc8,Bc8⟩⟩ ⟨ha,U,r8,Gu,L8⟩;simp only at ha U r8 Gu L8 ⊢;conv=>whnf
  apply ax<;>intro ge;all_goals conv=>whnf
  ·refine Gu.app r r8 ⟨5,0,0⟩ (.inl ⟨(aI (p:=0) (q:=0) rfl).2 ⟨rfl,rfl⟩,by simp,by simp,by simp⟩) rfl (by omega) rfl (Nat.le_of_ble_eq_true rfl) (λNy D6 Ru Nz Fy XG BJ=>?_);conv=>whnf
   refine aj ?_;conv=>whnf
   exact dm (Ru,P9-1,(DG++[⟨5,0,0⟩],Ny,D6,Nz)) ⟨by simp only;omega,by simp only;omega,BJ,Fy,by simp only[List.length_append,List.length_singleton];omega⟩ (by simp only;omega) (by simp only[List.length_append];rfl)
  ·exact⟨_,_,rfl,Gu.le,r8.free,by omega,by omega,DG,pc8,kc8,Bc8,el,pe,ke,Be,rfl,Gu,by omega⟩
def wX (g g':Heap):Prop:=∀ b off x,rd g b off=some (.int .i64 x)->cL x->∃ x',rd g' b off=some (.int .i64 x')/\cL x'
structure wL (g g':Heap):Prop where
 int:wX g g'
 bool:∀ b off x,rd g b off=some (.bool x)->∃ x',rd g' b off=some (.bool x')
 row:∀ b off v l,rd g b off=some v->cT g v l->∃ v' l',rd g' b off=some v'/\cT g' v' l'
theorem js {α:Type} {Q:Nat->α->Prop}:∀ n:Nat,(∀ i,i < n->∃ a,Q i a)->∃ l:List α,l.length=n/\∀ i x,l[i]? = some x->Q i x
 | 0,_=>⟨[],rfl,by simp⟩
 | n+1,hq=>by
  obtain⟨l,hl,hx⟩:=js n (λi hi=>hq i (by omega));obtain⟨a,ha⟩:=hq n (by omega);refine⟨l++[a],by simp[hl],λi x hi=>?_⟩;by_cases h1:i < n
  ·rw[List.getElem?_append_left (by omega)]at hi;exact hx i x hi
  ·rw[List.getElem?_append_right (by omega)]at hi;have h2:i=n:=by
    have:=(List.getElem?_eq_some_iff.1 hi).1;simp at this;omega
   subst h2;rw[hl,Nat.sub_self]at hi;simp at hi;subst hi;exact ha
def DH {α:Type} (g g':Heap) (sz:Nat) (R:Heap->List Value->α->Prop):Prop:=∀ b off vs x,eG g b off sz=some vs->R g vs x->∃ oW x',eG g' b off sz=some oW/\R g' oW x'
theorem iD {α:Type} {g g':Heap} {sz:Nat} {R:Heap->List Value->α->Prop} (hR:DH g g' sz R) {v:Value} {l:List α} (hr:Row sz R g v l):∃ l',Row sz R g' v l'/\l'.length=l.length:=by
 obtain⟨h1,p,c,rfl,h2,h3⟩:=hr;rcases h3 with rfl|⟨b,off,rfl,hx⟩
 ·exact⟨[],⟨by simp,p,c,rfl,by simp,.inl rfl⟩,rfl⟩
 ·obtain⟨l',hl,rM⟩:=js (Q:=λi x=>∃ vs,eG g' b (off+i*sz) sz=some vs/\R g' vs x) l.length (λi hi=>by
   obtain⟨vs,e1,e2⟩:=hx i l[i] (by simp[hi]);obtain⟨oW,x',e3,e4⟩:=hR _ _ _ _ e1 e2;exact⟨x',oW,e3,e4⟩)
  exact⟨l',⟨by omega,_,c,by rw[hl],by omega,.inr ⟨b,off,rfl,rM⟩⟩,hl⟩
theorem lD {h:Heap} {b off:Nat} {v:Value} (hv:rd h b off=some v):eG h b off 1=some [v]:=by simp[eG,hv]
theorem dF {h:Heap} {b off n:Nat} {v:Value} {vs:List Value} (hv:rd h b off=some v) (hr:eG h b (off+1) n=some vs):eG h b off (n+1)=some (v::vs):=by simp only[eG,hv,hr]
theorem cV {h:Heap} {b off n:Nat} {v:Value} {vs:List Value} (hr:eG h b off (n+1)=some (v::vs)):rd h b off=some v/\eG h b (off+1) n=some vs:=by
 simp only[eG]at hr;split at hr
 ·rename_i a r h1 h2;simp only[Option.some.injEq,List.cons.injEq]at hr;obtain⟨rfl,rfl⟩:=hr;exact⟨h1,h2⟩
 ·cases hr
theorem NA {g g':Heap} (a:wX g g'):DH g g' 1 VH:=by
 rintro b off vs x hv ⟨rfl,hx⟩;obtain⟨h1,_⟩:=cV hv;obtain⟨x',e1,e2⟩:=a _ _ _ h1 hx;exact⟨_,x',lD e1,rfl,e2⟩
theorem fL {g g':Heap} (a:wX g g') {v:Value} {l:List Int} (hr:cT g v l):∃ l',cT g' v l'/\l'.length=l.length:=iD (NA a) hr
theorem xu {g g':Heap} (a:wX g g'):DH g g' 3 CH:=by
 rintro b off vs x hv ⟨rfl,i1,i2,i3⟩;obtain⟨h1,hv⟩:=cV hv;obtain⟨h2,hv⟩:=cV hv;obtain⟨h3,_⟩:=cV hv;obtain⟨x1,e1,j1⟩:=a _ _ _ h1 i1;obtain⟨x2,e2,j2⟩:=a _ _ _ h2 i2;obtain⟨x3,e3,j3⟩:=a _ _ _ h3 i3;exact⟨_,⟨x1,x2,x3⟩,dF e1 (dF e2 (lD e3)),rfl,j1,j2,j3⟩
theorem xw {g g':Heap} (a:wX g g'):DH g g' 4 CI:=by
 rintro b off vs x hv ⟨rfl,i1,i2,i3,i4⟩;obtain⟨h1,hv⟩:=cV hv;obtain⟨h2,hv⟩:=cV hv;obtain⟨h3,hv⟩:=cV hv;obtain⟨h4,_⟩:=cV hv;obtain⟨x1,e1,j1⟩:=a _ _ _ h1 i1;obtain⟨x2,e2,j2⟩:=a _ _ _ h2 i2;obtain⟨x3,e3,j3⟩:=a _ _ _ h3 i3;obtain⟨x4,e4,j4⟩:=a _ _ _ h4 i4;exact⟨_,⟨x1,x2,x3,x4⟩,dF e1 (dF e2 (dF e3 (lD e4))),rfl,j1,j2,j3,j4⟩
theorem NB {g g':Heap} (a:wL g g'):DH g g' 3 lV:=by
 rintro b off vs x hv ⟨l1,l2,rfl,i1,i2⟩;obtain⟨h1,hv⟩:=cV hv;obtain⟨h2,hv⟩:=cV hv;obtain⟨h3,_⟩:=cV hv;obtain⟨x1,e1⟩:=a.bool _ _ _ h1;obtain⟨v1,m1,e2,j1⟩:=a.row _ _ _ _ h2 i1;obtain⟨v2,m2,e3,j2⟩:=a.row _ _ _ _ h3 i2;exact⟨_,⟨x1,m1,m2⟩,dF e1 (dF e2 (lD e3)),_,_,rfl,j1,j2⟩
theorem NC {g g':Heap} (a:wL g g') {vs:List Value} {m:cB} (hm:ee g vs m):∃ m',ee g' vs m'/\m'.code.length=m.code.length/\m'.aL.length=m.aL.length:=by
 obtain⟨a1,c,s,k,rfl,h1,h2,h3,h4,h5,h6,h7,h8⟩:=hm;obtain⟨l5,e5,_⟩:=fL a.int h5;obtain⟨l6,e6,n6⟩:=iD (xu a.int) h6;obtain⟨l7,e7,n7⟩:=iD (NB a) h7;obtain⟨l8,e8,_⟩:=iD (xw a.int) h8;exact⟨⟨m.cls,m.eL,l5,m.out,m.locals,l6,l7,l8⟩,⟨a1,c,s,k,rfl,h1,h2,h3,h4,e5,e6,e7,e8⟩,n6,n7⟩
theorem wL.of_le {g g':Heap} (hl:g.le g'):wL g g' where
 int:=λ_ _ x h i=>⟨x,aX hl h,i⟩
 bool:=λ_ _ x h=>⟨x,aX hl h⟩
 row:=λ_ _ v l h i=>⟨v,l,aX hl h,i.le hl⟩
theorem wL.trans {g g1 g2:Heap} (a:wL g g1) (c:wL g1 g2):wL g g2 where
 int:=λb off x h i=>by
  obtain⟨y,h1,i1⟩:=a.int b off x h i;exact c.int b off y h1 i1
 bool:=λb off x h=>by
  obtain⟨y,h1⟩:=a.bool b off x h;exact c.bool b off y h1
 row:=λb off v l h i=>by
  obtain⟨v1,l1,h1,i1⟩:=a.row b off v l h i;exact c.row b off v1 l1 h1 i1
theorem wM {g:Heap} {b off:Nat} {cs:List Value} {t:TypeId} {x y:Int} (U:g b=some (.cells cs.toArray t (0,0))) (hx:cs[off]? = some (.int .i64 x)) (hy:cL y):wL g (g.set b (.cells (cs.set off (.int .i64 y)).toArray t (0,0))):=by
 have iS:off < cs.length:=(List.getElem?_eq_some_iff.1 hx).1;have other:∀ b' dU,¬(b'=b/\dU=off)->rd (g.set b (.cells (cs.set off (.int .i64 y)).toArray t (0,0))) b' dU=rd g b' dU:=by
  intro b' dU cD;by_cases e:b'=b
  ·subst e;have:dU≠off:=λe=>cD ⟨rfl,e⟩;rw[lU];simp only[rd,U,List.getElem?_toArray];rw[List.getElem?_set_ne (λe=>this e.symm)]
  ·exact mX e
 have same:rd (g.set b (.cells (cs.set off (.int .i64 y)).toArray t (0,0))) b off=some (.int .i64 y):=by
  rw[lU];simp[iS]
 have ic:rd g b off=some (.int .i64 x):=by simp[rd,U,hx]
 have ai:wX g (g.set b (.cells (cs.set off (.int .i64 y)).toArray t (0,0))):=λb' dU z hz i=>by
  by_cases e:b'=b/\dU=off
  ·obtain⟨rfl,rfl⟩:=e;exact⟨y,same,hy⟩
  ·exact⟨z,by rw[other _ _ e];exact hz,i⟩
 refine⟨ai,λb' dU z hz=>?_,λb' dU v l hv i=>?_⟩
 ·have e:¬(b'=b/\dU=off):=by
   rintro⟨rfl,rfl⟩;rw[ic]at hz;cases hz
  exact⟨z,by rw[other _ _ e];exact hz⟩
 ·have e:¬(b'=b/\dU=off):=by
   rintro⟨rfl,rfl⟩;rw[ic]at hv;obtain⟨_,p,c,h2,_⟩:=i;rw[<-Option.some.inj hv]at h2;cases h2
  obtain⟨l',i',_⟩:=fL ai i;exact⟨v,l',by rw[other _ _ e];exact hv,i'⟩
theorem DI {g:Heap} {b:Nat} {pre post:List Value} {t:TypeId} {tv K8:Bool} {p q:Option Addr} {n c k d:Nat} {v1 v2:Value} {l1 l2:List Int} (U:g b=some (.cells (pre++[Value.bool tv,.slice p n c,.slice q k d]++post).toArray t (0,0)))
  (h1:cT g v1 l1) (h2:cT g v2 l2):wL g (g.set b (.cells (pre++[Value.bool K8,v1,v2]++post).toArray t (0,0))):=by
 have ic:∀ i v,[Value.bool tv,.slice p n c,.slice q k d][i]? = some v->rd g b (pre.length+i)=some v:=λi v hv=>bG U rfl hv;have jO:(g.set b (.cells (pre++[Value.bool K8,v1,v2]++post).toArray t (0,0))) b=some (.cells (pre++[Value.bool K8,v1,v2]++post).toArray t (0,0)):=cZ _ _ _;have same:∀ i v,[Value.bool K8,v1,v2][i]? = some v->rd (g.set b (.cells (pre++[Value.bool K8,v1,v2]++post).toArray t (0,0))) b (pre.length+i)=some v:=λi v hv=>bG jO rfl hv;have other:∀ b' dU,¬(b'=b/\pre.length<=dU/\dU < pre.length+3)->rd (g.set b (.cells (pre++[Value.bool K8,v1,v2]++post).toArray t (0,0))) b' dU=rd g b' dU:=by
  intro b' dU cD;by_cases e:b'=b
  ·subst e;rw[lU];simp only[rd,U,List.getElem?_toArray];by_cases e1:dU < pre.length
   ·rw[List.append_assoc,List.append_assoc,List.getElem?_append_left e1,List.getElem?_append_left e1]
   ·have e2:pre.length+3<=dU:=by
     rcases Nat.lt_or_ge dU (pre.length+3)with h|h
     ·exact absurd ⟨rfl,by omega,h⟩ cD
     ·exact h
    rw[List.getElem?_append_right (by simp;omega),List.getElem?_append_right (by simp;omega)];simp
  ·exact mX e
 have at3:∀ dU,pre.length<=dU/\dU < pre.length+3->dU=pre.length+0\/dU=pre.length+1\/dU=pre.length+2:=by intro dU h;omega
 have ai:wX g (g.set b (.cells (pre++[Value.bool K8,v1,v2]++post).toArray t (0,0))):=λb' dU z hz i=>by
  by_cases e:b'=b/\pre.length<=dU/\dU < pre.length+3
  ·obtain⟨rfl,e⟩:=e;rcases at3 _ e with rfl|rfl|rfl
   ·rw[ic 0 _ rfl]at hz;cases hz
   ·rw[ic 1 _ rfl]at hz;cases hz
   ·rw[ic 2 _ rfl]at hz;cases hz
  ·exact⟨z,by rw[other _ _ e];exact hz,i⟩
 refine⟨ai,λb' dU z hz=>?_,λb' dU v l hv i=>?_⟩
 ·by_cases e:b'=b/\pre.length<=dU/\dU < pre.length+3
  ·obtain⟨rfl,e⟩:=e;rcases at3 _ e with rfl|rfl|rfl
   ·exact⟨K8,same 0 _ rfl⟩
   ·rw[ic 1 _ rfl]at hz;cases hz
   ·rw[ic 2 _ rfl]at hz;cases hz
  ·exact⟨z,by rw[other _ _ e];exact hz⟩
 ·by_cases e:b'=b/\pre.length<=dU/\dU < pre.length+3
  ·obtain⟨rfl,e⟩:=e;rcases at3 _ e with rfl|rfl|rfl
   ·rw[ic 0 _ rfl]at hv;obtain⟨_,p,c,h2,_⟩:=i;rw[<-Option.some.inj hv]at h2;cases h2
   ·obtain⟨l',i',_⟩:=fL ai h1;exact⟨v1,l',same 1 _ rfl,i'⟩
   ·obtain⟨l',i',_⟩:=fL ai h2;exact⟨v2,l',same 2 _ rfl,i'⟩
  ·obtain⟨l',i',_⟩:=fL ai i;exact⟨v,l',by rw[other _ _ e];exact hv,i'⟩
end Go.Proofs
