/- Lemmas. -/
import Derived.Test.YtcenghjfipkgmaaGreatMb7
set_option linter.unusedSimpArgs false
set_option linter.unusedVariables false
namespace Go.Proofs
open Go.Vc Go.Proofs.Tryz

set_option maxRecDepth 100000
set_option maxHeartbeats 4000000
structure Td (u:aO) (m:cL):Prop where
 head:fQ u.J.length m
 len:1<=m.code.length/\m.code.length<=12
 code:∀ x∈m.code,eU u m x
 cat:oM u m
theorem uy {n:Nat} {m:cL} (h:fQ n m) (hn:n<=5):∀ t∈cG m,0<=t/\t < 8+(n:Int):=by
 intro t ht;unfold cG at ht;rcases u_.1 ht with ht|ht
 ·split at ht
  ·rename_i hc;rw[V_.1 ht];rcases h.1 with h1|h1
   ·omega
   ·omega
  ·cases ht
 ·have:=gC (h.2.2.2.1 t ht);omega
theorem GJ (us ms:List Value) (m:cL) (n:Nat) (h:Heap) (hm:eM h ms m) (hH:fQ n m) (hn:n<=5) :
  bI prog 178 [.agg ⟨ms⟩] h λv h'=>h.le h'/\∃ p c B,v=.slice p (cG m).length c/\dR h' (.slice p (cG m).length c) (cG m) B/\∀ b∈B,h b=none:=by
 obtain⟨p1,c1,p2,c2,p3,c3,p4,c4,rfl,k1,k2,k3,k4,k5,k6,k7,k8,d1,d2,d3,d4⟩:=hm.form;have N9:=uy hH hn;have ha2:=hH.2.1;have ia:=uv k5;have Dk:=wN (m:=m);refine bZ au func178 Xr Xs rfl ?_;conv=>whnf
 refine ec [] rfl (λb0 h1 tZ e0 l1 g0=>?_);conv=>whnf
 apply ax<;>intro g;all_goals conv=>whnf
 ·have NS:m.cls < 6:=by
   rcases hH.1 with h1|h1
   ·omega
   ·omega
  refine ah ?_;conv=>whnf
  refine lG (l:=[]) (k:=[8+m.cls]) (dX g0) (by simpa using tZ) l1 rfl (by simp) (λt ht=>by simp at ht;unfold cY;omega) (λq2 e2 h2 B2 l2 o2 r2 n2=>?_);conv=>whnf
  refine EG l2 k5 ?_;conv=>whnf
  have Q3:([]++[8+m.cls])++m.args=cG m:=by unfold cG;rw[if_pos g];rfl
  refine lG (l:=[]++[8+m.cls]) o2 n2 l2 rfl (by simp;omega) (λt ht=>by
   rw[Q3]at ht;have:=N9 t ht;unfold cY;omega) (λq3 e3 h3 B3 l3 o3 r3 n3=>?_)
  conv=>whnf
  have tQ:([]++[8+m.cls]:List Int).length+m.args.length=(cG m).length:=by rw[<-Q3];simp;omega
  rw[tQ,Q3]at o3;rw[Q3];exact⟨l3,_,_,B3,rfl,o3,n3⟩
 ·refine EG l1 k5 ?_;conv=>whnf
  have Q3:[]++m.args=cG m:=by unfold cG;rw[if_neg g]
  refine lG (l:=[]) (dX g0) (by simpa using tZ) l1 rfl (by simp;omega) (λt ht=>ia t (by simpa using ht)) (λq3 e3 h3 B3 l3 o3 r3 n3=>?_);conv=>whnf
  have tQ:([]:List Int).length+m.args.length=(cG m).length:=by rw[<-Q3];simp
  rw[tQ,Q3]at o3;rw[Q3];exact⟨l3,_,_,B3,rfl,o3,n3⟩
def jt (m:cL):dY:=⟨true,cG m++List.replicate (m.locals.toNat-(cG m).length) 0,[]⟩
theorem rR {n:Nat} {m:cL} (h:fQ n m) (hn:n<=5):rP n m.locals (jt m):=by
 have Dk:=h.2.2.2.2.2;refine⟨by simp[jt];omega,λt ht=>?_,λt ht=>by simp[jt]at ht,by simp[jt]⟩;rcases u_.1 ht with ht|ht
 ·exact uy h hn t ht
 ·rw[List.eq_of_mem_replicate ht];omega
theorem uz (us ms:List Value) (m:cL) (n:Nat) (h:Heap) (hm:eM h ms m) (hH:fQ n m) (hn:n<=5) :
  bI prog 150 [.agg ⟨ms⟩] h λv h'=>h.le h'/\Aw h' v (jt m):=by
 have ac0:=GJ us ms m n h hm hH hn;obtain⟨p1,c1,p2,c2,p3,c3,p4,c4,rfl,k1,k2,k3,k4,k5,k6,k7,k8,d1,d2,d3,d4⟩:=hm.form;have N9:=uy hH hn;have Dk:=hH.2.2.2.2.2;have tQ:=hH.2.2.2.2.1;refine bZ au func150 WI WJ rfl ?_;conv=>whnf
 refine aC ac0 (λv h1 hh=>?_);refine hh.2.elim λq1 hf=>hf.elim λe1 hf=>hf.elim λB1 hf=>?_;have hv:=hf.1;subst hv;have o1:=hf.2.1;have n1:=hf.2.2;have l1:=hh.1;conv=>whnf
 refine ec [] rfl (λb3 h3 s7 ee3 l3 g3=>?_);have adS:b3 ∉ B1:=λhx=>by obtain⟨o,ho⟩:=o1.in b3 hx;rw[s7]at ho;cases ho
 conv=>whnf
 have e0:(cG m).length=(cG m++List.replicate 0 (0:Int)).length:=by simp
 refine fh [1,2,3] [1,2,3] (λx:Nat × Heap × Option Addr × Nat × List Nat=>((cG m).length:Int)+x.1<=m.locals/\h.le x.2.1/\dR x.2.1 (.slice x.2.2.1 ((cG m).length+x.1) x.2.2.2.1) (cG m++List.replicate x.1 0) x.2.2.2.2/\∀ b∈x.2.2.2.2,h b=none) (λx=>m.locals.toNat-((cG m).length+x.1))
  (λx=>([.l 1 0,.l 2 0,.l 3 0],[some [.int .i64 m.cls,.int .i64 m.fG,.slice p1 m.args.length c1,.int .i64 m.out,.int .i64 m.locals,.slice p2 m.code.length c2,.slice p3 m.aQ.length c3,.slice p4 m.catches.length c4],some [.bool false,.slice none 0 0,.slice none 0 0],some [.bool true,.slice x.2.2.1 ((cG m).length+x.1) x.2.2.2.1,.slice (some ⟨b3,0,none⟩) 0 0]],x.2.1))
  (0,h3,q1,e1,B1) ⟨by simp;omega,y_ l1 l3,by simpa using o1.aJ (cR.of_le l3 _),n1⟩ rfl ?_
 rintro⟨j,h5,q5,e5,B5⟩ ⟨hj,l5,o5,n5⟩;simp only at hj l5 o5 n5 ⊢;conv=>whnf
 apply ax<;>intro g;all_goals conv=>whnf
 ·have tX:(cG m++List.replicate j (0:Int)).length=(cG m).length+j:=by simp
  refine lG (l:=cG m++List.replicate j 0) (k:=[0]) o5 n5 l5 rfl (by simp;omega) (λt ht=>by
   simp only[u_,V_]at ht;rcases ht with (ht|ht)|rfl
   ·have:=N9 t ht;unfold cY;omega
   ·rw[List.eq_of_mem_replicate ht];unfold cY;omega
   ·unfold cY;omega) (λq6 e6 h6 B6 l6 o6 r6 n6=>?_)
  have hsu:(cG m++List.replicate j (0:Int))++[0]=cG m++List.replicate (j+1) 0:=by rw[List.replicate_succ',List.append_assoc]
  have ZU:((cG m++List.replicate j (0:Int))++[0]).length=(cG m).length+(j+1):=by simp<;>omega
  have hl7:(cG m++List.replicate j (0:Int)).length + [(0:Int)].length=(cG m).length+(j+1):=by simp<;>omega
  rw[hl7,hsu]at o6;rw[ZU];conv=>whnf
  exact dm (j+1,h6,q6,e6,B6) ⟨by simp only;omega,l6,o6,n6⟩ (by simp only;omega) rfl
 ·have hje:j=m.locals.toNat-(cG m).length:=by omega
  have hs:(jt m).locals=cG m++List.replicate j 0:=by rw[hje];rfl
  have hl:(jt m).locals.length=(cG m).length+j:=by rw[hs];simp
  refine⟨l5,q5,e5,some ⟨b3,0,none⟩,0,?_,?_,iP _ _ _⟩
  ·rw[hl];rfl
  ·rw[hl];rw[<-hs]at o5;have:=(fm o5 (by rw[hl];omega) (λt ht=>by
    have:=(rR hH hn).gj t ht;unfold cY;omega)).2
   rw[hl]at this;exact this
def eA (i:ez):Bool:=decide (8<=i.kind/\i.kind<=11)
def kn (i:ez):Bool:=decide (i.kind=11\/i.kind=22\/i.kind=23)
theorem kO (k a b:Int) (h:Heap):Pure prog 149 [.agg #[.int .i64 k,.int .i64 a,.int .i64 b]] h (.bool (eA ⟨k,a,b⟩)):=by
 refine iC au func149 WG WH rfl ?_;conv=>whnf
 refine aj (dP _ _ _ _) ?_;conv=>whnf
 exact⟨rfl,rfl⟩
theorem o7 (k a b:Int) (h:Heap):Pure prog 155 [.agg #[.int .i64 k,.int .i64 a,.int .i64 b]] h (.bool (kn ⟨k,a,b⟩)):=by
 have e:kn ⟨k,a,b⟩=decide (k=11\/k=22\/k=23):=rfl;rw[e];refine iC au func155 WT WU rfl ?_;conv=>whnf
 apply ax<;>intro g;all_goals conv=>whnf
 ·exact⟨by simp[g],rfl⟩
 apply ax<;>intro g2;all_goals conv=>whnf
 ·exact⟨by simp[g2],rfl⟩
 ·exact⟨by simp[g,g2],rfl⟩
def fu (c:Int) (s:dY):dY:=⟨true,s.locals,[8+c]⟩
theorem rT (lo hi to cls:Int) (s:dY) (lp kp:Option Addr) (lc kc:Nat) (h:Heap) (hI:tq h s lp kp lc kc) (hl:s.locals.length<=1000) (hc:0<=cls/\cls<=100) :
  bI prog 184 [.agg #[.int .i64 lo,.int .i64 hi,.int .i64 to,.int .i64 cls],.agg #[.bool s.told,.slice lp s.locals.length lc,.slice kp s.stack.length kc]] h λv h'=>h.le h'/\Aw h' v (fu cls s):=by
 have i1:=uv hI.1;have st:=tL.start h;have Ta:=hI.1;have b1:s.locals.length<=1000000:=by omega
 have fin:∀ {h':Heap} {p1 c1 b B1 B2},tL h h' (.slice p1 s.locals.length c1) s.locals B1 (.slice (some ⟨b,0,none⟩) 1 1) [8+cls] B2->h.le h'/\Aw h' (.agg #[.bool true,.slice p1 s.locals.length c1,.slice (some ⟨b,0,none⟩) 1 1]) (fu cls s):=λst=>by
  have r1:=(fm st.o1 (by omega) i1).2;have r2:=(fm st.o2 (by simp) (λt ht=>by rw[V_.1 ht];unfold cY;omega)).2;exact⟨st.le,_,_,_,_,rfl,r1,r2⟩
 have Ma:∀ {h':Heap} {v1 l1 B1} {ty:TypeId} {vs:List Value} {K:Nat->Heap->Prop},tL h h' v1 l1 B1 (.slice none 0 0) [] []->vs=[.int .i64 (8+cls)]->(∀ b h2,tL h h2 v1 l1 B1 (.slice (some ⟨b,0,none⟩) 1 1) [8+cls] [b]->K b h2)->JQ h' vs ty K:=λ{h' v1 l1 B1 ty vs K} s hv hk=>by
  subst hv;refine ec [.int .i64 (8+cls)] rfl (λb h2 hb e l g=>hk b h2 ⟨y_ s.le l,s.o1.aJ (cR.of_le l _),jC (vs:=[bN (8+cls)]) (t:=ty) (by simp[bN]) rfl (by rw[g];rfl),?_,λx hx=>?_⟩)
  ·exact Nd.two s.o1.nd (λa=>by simp only[X_,List.count_nil];split<;>omega) (λx hx hm=>by
    rw[V_.1 hx]at hm;obtain⟨o,ho⟩:=s.o1.in b hm;rw[hb]at ho;cases ho)
  ·rcases u_.1 hx with hx|hx
   ·exact s.fr x (by simp[hx])
   ·rw[V_.1 hx];exact gv s.le hb
 refine bZ au func184 XB XC rfl ?_;conv=>whnf
 repeat' ((first|exact trivial|exact fin st|apply T_|refine ah ?_|refine EG st.le Ta ?_|refine st.EH rfl b1 (λp' c' h9 B' st=>?_)|refine Ma st rfl (λb h9 st=>?_)|refine st.Ma rfl (λb h9 st=>?_))<;>conv=>whnf)
def bh (h:Heap) (b:Nat):Heap:=λx=>if x=b then none else h x
theorem iq (h:Heap) (b:Nat):(bh h b).le h:=λx o hx=>by
 unfold bh at hx;split at hx
 ·cases hx
 ·exact hx
theorem cy {h h':Heap} (b:Nat) (hl:h.le h'):(bh h b).le (bh h' b):=λx o hx=>by
 unfold bh at hx ⊢;split
 ·rename_i e;rw[if_pos e]at hx;cases hx
 ·rename_i e;rw[if_neg e]at hx;exact hl x o hx
theorem vM {h0 h:Heap} {b:Nat} (hl:h0.le h) (hb:h0 b=none):h0.le (bh h b):=λx o hx=>by
 unfold bh;split
 ·rename_i e;rw[e,hb]at hx;cases hx
 ·exact hl x o hx
theorem CT {h h':Heap} {b:Nat} (hl:(bh h b).le (bh h' b)) (hb:h' b=h b):h.le h':=λx o hx=>by
 by_cases e:x=b
 ·rw[e]at hx ⊢;rw[hb];exact hx
 ·have:=hl x o (by unfold bh;rw[if_neg e];exact hx);unfold bh at this;rwa [if_neg e]at this
theorem zC (h:Heap) (b:Nat) (o:Obj):bh (h.set b o) b=bh h b:=by
 funext x
 unfold bh;by_cases e:x=b
 ·rw[if_pos e,if_pos e]
 ·rw[if_neg e,if_neg e];simp[Heap.set,e]
theorem o9 {P:Program} {f:FuncId} {args:List Value} {h:Heap} {b:Nat} {o:Obj} {R:Value->Heap->Prop} (hb:h b=some o) (hc:bI P f args (bh h b) R) :
  bI P f args h λv h'=>h' b=h b/\R v (bh h' b):=by
 intro w hv;refine(hc w (λb' o' hx=>hv b' o' (iq h b b' o' hx))).mono ?_;rintro e w' ⟨h1,m,hm⟩;have hbw:=hv b o hb;have gE:b < w.heap.size:=eV hbw;have Qz:h1 b=none:=by
  cases hx:h1 b with
  | none=>rfl
  | some x =>
   rcases m.x9 b (by rw[hx];simp)with h2|h2
   ·exact absurd (by simp[bh]) h2
   ·omega
 let h':Heap:=λx=>if x=b then h b else h1 x
 have hh:bh h' b=h1:=by
  funext x
  unfold bh;by_cases e:x=b
  ·rw[if_pos e,e,Qz]
  ·rw[if_neg e];simp[h',e]
 have mv:dn h w h' w':=by
  refine⟨λx y hx=>?_,λx hx hn=>?_,λx hx=>?_,m.size,m.fz,m.out⟩
  ·by_cases e:x=b
   ·subst e;have hk:=m.aJ x gE (by simp[bh]);simp only[h',if_true]at hx;rw[hk];exact hv x y hx
   ·simp only[h',e,if_false]at hx;exact m.view x y hx
  ·have Z0:bh h b x=none:=by
    unfold bh;by_cases e:x=b
    ·rw[if_pos e]
    ·rw[if_neg e];exact hn
   exact m.aJ x hx Z0
  ·by_cases e:x=b
   ·subst e;left;rw[hb];simp
   ·simp only[h',e,if_false]at hx;rcases m.x9 x hx with h2|h2
    ·left;unfold bh at h2;rwa [if_neg e]at h2
    ·exact .inr h2
 refine⟨h',mv,?_⟩;cases e with
 | returned v=>exact⟨by simp[h'],by rw[hh];exact hm⟩
 | panicked c=>exact hm.elim
 | outgrown=>exact hm.elim
theorem lU {P:Program} {f:FuncId} {args:List Value} {h:Heap} {b:Nat} {o:Obj} {K:Value->Heap->Prop} {E:List PanicEntry->Heap->Prop} {R:Value->Heap->Prop} (hb:h b=some o) (hc:bI P f args (bh h b) λv h'=>(bh h b).le h'/\R v h')
  (hk:∀ v h',h.le h'->R v (bh h' b)->K v h'):Go.Vc.Call P f args h K E:=aC (o9 hb hc) λv h' hh=>hk v h' (CT hh.2.1 hh.1) hh.2.2
theorem H8 {P:Program} {f:FuncId} {args:List Value} {h:Heap} {b:Nat} {o:Obj} {K:Value->Heap->Prop} {E:List PanicEntry->Heap->Prop} {R:Value->Heap->Prop} (hb:h b=some o) (hc:bI P f args (bh h b) λv h'=>(bh h b).le h'/\R v h')
  (hk:∀ v h',h.le h'->R v (bh h' b)->K v h'):iF P f args h K E:=cX (o9 hb hc) λv h' hh=>⟨CT hh.2.1 hh.1,hk v h' (CT hh.2.1 hh.1) hh.2.2⟩
structure jf (h0 h:Heap) (b c:Nat) (A:List dY):Prop where
 le:h0.le h
 fr:h0 b=none
 row:∃ aS,cr 3 h (.slice (some ⟨b,0,none⟩) A.length c) aS [b]/\aS.length=A.length/\∀ i (h1:i < aS.length) (h2:i < A.length),mV (bh h b) aS[i] A[i]
theorem jf.hle {h0 h:Heap} {b c:Nat} {A:List dY} (a:jf h0 h b c A):h0.le (bh h b):=vM a.le a.fr
theorem jf.in {h0 h:Heap} {b c:Nat} {A:List dY} (a:jf h0 h b c A):∃ o,h b=some o:=by
 obtain⟨aS,ho,_⟩:=a.row;exact ho.in b (by simp)
theorem jf.aJ {h0 h h':Heap} {b c:Nat} {A:List dY} (a:jf h0 h b c A) (hl:h.le h'):jf h0 h' b c A:=by
 obtain⟨aS,ho,hn,hr⟩:=a.row;exact⟨y_ a.le hl,a.fr,aS,ho.aJ (cR.of_le hl _),hn,λi h1 h2=>(hr i h1 h2).le (cy b hl)⟩
theorem jf.at {h0 h:Heap} {b c:Nat} {A:List dY} (a:jf h0 h b c A) {i:Nat} (hi:i < A.length) :
  ∃ p1 c1 p2 c2,fj h b (0+i*3) 3=some [.bool A[i].told,.slice p1 A[i].locals.length c1,.slice p2 A[i].stack.length c2]/\rd h b (0+i*3)=some (.bool A[i].told)/\tq (bh h b) A[i] p1 p2 c1 c2 /\
   ∀(vs:List Value) (s:dY) (K:Heap->Prop),mV (bh h b) vs s->(∀ h2,bh h2 b=bh h b->jf h0 h2 b c (A.set i s)->K h2)->St h b (0+i*3) vs K:=by
 obtain⟨aS,ho,hn,hr⟩:=a.row;have wD:i < aS.length:=by omega
 have tX:aS=aS.take i++aS[i]::aS.drop (i+1):=by simp
 have AS:cr 3 h (.slice (some ⟨b,0,none⟩) A.length c) (aS.take i++aS[i]::aS.drop (i+1)) [b]:=by rw[<-tX];exact ho
 obtain⟨bl,cl,pre,post,tl,hq,td,fV,Te,hB,fe⟩:=AS.at;simp only[Z_,v_,Addr.mk.injEq]at hq;obtain⟨⟨rfl,_⟩,_,rfl⟩:=hq;have lF:pre.length=i*3:=by rw[fV];simp;omega
 obtain⟨l,k,hv,hl,hk⟩:=hr i wD hi;have f1:=hl.len;obtain⟨p1,c1,rfl,_,_⟩:=f1;have f2:=hk.len;obtain⟨p2,c2,rfl,_,_⟩:=f2;rw[hv]at td;refine⟨p1,c1,p2,c2,?_,?_,⟨hl,hk⟩,λvs s K hs hK=>?_⟩
 ·rw[bO td 3 (0+i*3) (by simp[lF])];rw[List.append_assoc,Nat.zero_add,<-lF,List.drop_left];rfl
 ·exact bE td (i:=0) (by omega) rfl
 ·have Cz:vs.length=3:=by obtain⟨_,_,rfl,_⟩:=hs;rfl
  refine Ag td (pre++vs++post) (by simp[lF,Cz]<;>omega) (m4 (x':=vs) (by omega) (by rw[Cz];rfl)) (λh5 e5 g5=>?_);have hh:bh h5 b=bh h b:=by rw[e5,zC]
  have I8:aS.set i vs=aS.take i++vs::aS.drop (i+1):=by rw[List.set_eq_take_append_cons_drop,if_pos wD]
  refine hK h5 hh ⟨?_,a.fr,aS.set i vs,?_,by simp[hn],λj h1 h2=>?_⟩
  ·rw[e5];exact Heap.aP a.le a.fr
  ·rw[I8,List.length_set];exact fe h5 vs g5 Cz
  ·rw[hh];simp only[List.getElem_set];split
   ·exact hs
   ·exact hr j (by simpa using h1) (by simpa using h2)
theorem jf.zD {h0 h:Heap} {b c:Nat} {A:List dY} (a:jf h0 h b c A) (hl:A.length<=1000):Row 3 mV h (.slice (some ⟨b,0,none⟩) A.length c) A:=by
 obtain⟨aS,ho,hn,hr⟩:=a.row;obtain⟨hx,⟨he,_⟩|⟨b',c',rest,t,he,hc,hb,_,_⟩⟩:=ho
 ·cases he
 simp only[Z_,v_,Addr.mk.injEq]at he;obtain⟨⟨rfl,_⟩,_,rfl⟩:=he;refine⟨by omega,_,_,rfl,by omega,.inr ⟨b,0,rfl,λi x hi=>?_⟩⟩;obtain⟨h2,rfl⟩:=List.getElem?_eq_some_iff.1 hi;obtain⟨p1,c1,p2,c2,e1,_,e3,_⟩:=a.at h2;exact⟨_,e1,_,_,rfl,dy.le (iq h b) e3.1,dy.le (iq h b) e3.2⟩
def zE (l:List Int):Nat:=(l.map oA).sum
def rU (s:dY):Nat:=zE s.locals+zE s.stack
def Mj (s:dY):Nat:=if s.told=true then rU s else 100
def mu (A:List dY):Nat:=(A.map Mj).sum
def rV (n:Nat) (k:Int) (A:List dY):Prop:=∀ s∈A,s.told=true->rP n k s
theorem Mk:∀ {A:List dY} {i:Nat} (hi:i < A.length) (s:dY),mu (A.set i s)+Mj A[i]=mu A+Mj s
 | [],i,hi,s=>by simp at hi
 | x::A,0,hi,s=>by simp[mu];omega
 | x::A,i+1,hi,s=>by
  have:=Mk (A:=A) (i:=i) (by simpa using hi) s;simp only[mu,List.set_cons_succ,List.map_cons,List.sum_cons,List.getElem_cons_succ]at this ⊢;omega
theorem vN {n:Nat} {k:Int} {A:List dY} (hA:rV n k A) (i:Nat) {s:dY} (hs:s.told=true->rP n k s):rV n k (A.set i s):=λx hx ht=>by
 rcases List.mem_or_eq_of_mem_set hx with h|rfl
 ·exact hA x h ht
 ·exact hs ht
theorem Pj {n:Nat} (hn:n<=5) {t:Int} (h:0<=t/\t < 8+(n:Int)):oA t<=10:=by
 unfold oA;split
 ·omega
 ·split
  ·omega
  ·split
   ·omega
   ·split<;>omega
theorem CU {n:Nat} (hn:n<=5):∀ {l:List Int},(∀ t∈l,0<=t/\t < 8+(n:Int))->zE l<=l.length*10
 | [],_=>by simp[zE]
 | t::l,h=>by
  have h1:=Pj hn (h t (by simp));have h2:=CU hn (l:=l) (λx hx=>h x (by simp[hx]));simp only[zE,List.map_cons,List.sum_cons,List.length_cons]at h2 ⊢;omega
theorem Ml {n:Nat} (hn:n<=5) {k:Int} (hk:k<=3) {s:dY} (hs:rP n k s):rU s < 100:=by
 have h1:=CU hn hs.gj;have h2:=CU hn hs.cP;have:=hs.loc;have:=hs.len;unfold rU;omega
theorem zF {cs:List eD}:∀ {l r:List Int},l.length=r.length->(∀ i (h1:i < l.length) (h2:i < r.length),mo cs l[i] r[i])->zE r<=zE l/\(jn cs r l=false->zE r < zE l)
 | [],[],_,_=>by simp[zE,jn]
 | [],_::_,h,_=>by simp at h
 | _::_,[],h,_=>by simp at h
 | a::l,b::r,h,hm=>by
  have h0:=hm 0 (by simp) (by simp);simp only[List.getElem_cons_zero]at h0;have ih:=zF (cs:=cs) (l:=l) (r:=r) (by simpa using h) (λi h1 h2=>hm (i+1) (by simpa using h1) (by simpa using h2));simp only[zE,List.map_cons,List.sum_cons,jn]at ih ⊢;refine⟨by have:=h0.2.1;omega,λhf=>?_⟩;cases ht:iy cs b a with
  | false=>have:=h0.2.2 ht;omega
  | true=>rw[ht,Bool.true_and]at hf;have:=ih.2 hf;have:=h0.2.1;omega
theorem Pk {cs:List eD} {a x:dY} {k:Int} (hs:rP cs.length k a) (hj:x.told=a.told/\x.locals.length=a.locals.length/\x.stack.length=a.stack.length/\(∀ i (h1:i < a.locals.length) (h2:i < x.locals.length),mo cs a.locals[i] x.locals[i])/\∀ i (h1:i < a.stack.length) (h2:i < x.stack.length),mo cs a.stack[i] x.stack[i]) :
  rP cs.length k x/\(Dn cs x a=false->rU x < rU a):=by
 obtain⟨_,e1,e2,m1,m2⟩:=hj;have s1:=zF e1.symm m1;have s2:=zF e2.symm m2;refine⟨⟨by rw[e1];exact hs.loc,λt ht=>?_,λt ht=>?_,by rw[e2];exact hs.len⟩,λhf=>?_⟩
 ·obtain⟨i,hi,rfl⟩:=List.mem_iff_getElem.1 ht;exact(m1 i (by omega) hi).1
 ·obtain⟨i,hi,rfl⟩:=List.mem_iff_getElem.1 ht;exact(m2 i (by omega) hi).1
 ·unfold Dn at hf;rw[decide_eq_true e2,Bool.true_and]at hf;unfold rU;cases h1:jn cs x.locals a.locals with
  | false=>have:=s1.2 h1;omega
  | true=>rw[h1,Bool.true_and]at hf;have:=s2.2 hf;omega
theorem zG (s:dY) (lp kp:Option Addr) (lc kc:Nat) (h:Heap) (hI:tq h s lp kp lc kc) (b1:s.locals.length<=1000000) (b2:s.stack.length<=1000000) :
  bI prog 152 [.agg #[.bool s.told,.slice lp s.locals.length lc,.slice kp s.stack.length kc]] h λv h'=>h.le h'/\Aw h' v s :=
 bI.mono (wV s.told lp kp lc kc s.locals s.stack h hI.1 hI.2 b1 b2) λv h' hh=>by
  obtain⟨p1,c1,p2,c2,B1,B2,rfl,st⟩:=hh;exact⟨st.le,p1,c1,p2,c2,rfl,(fm st.o1 (by omega) (uv hI.1)).2,(fm st.o2 (by omega) (uv hI.2)).2⟩
theorem Aw.of {h:Heap} {p1 p2:Option Addr} {c1 c2:Nat} {s:dY} (hI:tq h s p1 p2 c1 c2):mV h [.bool s.told,.slice p1 s.locals.length c1,.slice p2 s.stack.length c2] s:=⟨_,_,rfl,hI.1,hI.2⟩
theorem GK (us:List Value) (u:aO) (k:Int) (h0 h:Heap) (b c:Nat) (A:List dY) (at_:Int) (s:dY) (lp kp:Option Addr) (lc kc:Nat) (hu:dG h0 us u) (ok:cI u.J) (hk:k<=3) (a:jf h0 h b c A) (hV:rV u.J.length k A) (nR:0<=at_/\at_ < A.length) (Z1:A.length<=1000) (hs:rP u.J.length k s) (ht:s.told=true) (hI:tq (bh h b) s lp kp lc kc) :
  bI prog 205 [.agg ⟨us⟩,.slice (some ⟨b,0,none⟩) A.length c,.int .i64 at_,.agg #[.bool s.told,.slice lp s.locals.length lc,.slice kp s.stack.length kc]] h
   λv h'=>(bh h b).le (bh h' b)/\∃ ch A',v=.bool ch/\jf h0 h' b c A'/\rV u.J.length k A'/\A'.length=A.length/\mu A'<=mu A/\(ch=true->mu A' < mu A):=by
 obtain⟨p,cc,q,d,rfl,hcs,fM,ji,hl2⟩:=hu.form;have ac1:fP (bh h b) (.slice p u.J.length cc) u.J:=hcs.le a.hle (λ_ _ hx=>hx.le a.hle);have zi:=ok.2.1;obtain⟨o,nH⟩:=a.in;have hi:at_.toNat < A.length:=by omega
 have I8:=hs.loc;have adT:=hs.len;have rQ:=zG s lp kp lc kc (bh h b) hI (by omega) (by omega);obtain⟨p1,c1,p2,c2,e1,e2,e3,put⟩:=a.at hi;have ef:=x_ hi;have ko:=λx=>Mk hi x;have hAt:=hV _ ef;have same:∀ h',h.le h'->(bh h b).le (bh h' b)/\∃ ch A',Value.bool false=.bool ch/\jf h0 h' b c A'/\rV u.J.length k A'/\A'.length=A.length/\mu A'<=mu A/\(ch=true->mu A' < mu A):=λh' hl=>⟨cy b hl,false,A,rfl,a.aJ hl,hV,rfl,Nat.le_refl _,λhx=>by cases hx⟩
 refine bZ au func205 Yd Ye rfl ?_;conv=>whnf
 refine aq ?_;conv=>whnf
 refine ptr ?_;conv=>whnf
 refine ld e2 ?_;conv=>whnf
 apply cJ<;>intro g;all_goals conv=>whnf
 ·refine lU nH rQ (λv h1 l1 hr=>?_);refine hr.elim λq1 hr=>hr.elim λd1 hr=>hr.elim λq2 hr=>hr.elim λd2 hr=>?_;have hv:=hr.1;subst hv;have r1:=hr.2;have a1:=a.aJ l1;refine(a1.at hi).elim λ_ hp=>hp.elim λ_ hp=>hp.elim λ_ hp=>hp.elim λ_ hp=>?_;have EJ:=hp.2.2.2;conv=>whnf
  repeat' ((first|refine aq ?_|refine ah ?_|refine ptr ?_)<;>conv=>whnf)
  refine EJ _ s _ (Aw.of r1) (λh2 hh a2=>?_);conv=>whnf
  have hm:=ko s;have gE:=Ml zi hk hs;have e1:Mj s=rU s:=by unfold Mj;rw[if_pos ht]
  have e2:Mj A[at_.toNat]=100:=by unfold Mj;rw[if_neg (by rw[g];simp)]
  refine⟨by rw[hh];exact cy b l1,true,A.set at_.toNat s,rfl,a2,vN hV _ (λ_=>hs),by simp,by omega,λ_=>by omega⟩
 ·have hA:=hAt g;have Z2:=Jr p u.J.length cc u.J A[at_.toNat] s p1 p2 lp kp c1 c2 lc kc (bh h b) ac1 ok e3 hI (by have:=hA.loc;omega) (by have:=hA.loc;omega) (by have:=hA.len;omega) hA.gj hA.cP hs.gj hs.cP;have rest:∀(h1:Heap) (x:dY) (q1 q2:Option Addr) (d1 d2:Nat),h.le h1->tq (bh h1 b) x q1 q2 d1 d2->Q2 u.J A[at_.toNat] x->x.told=true->rP u.J.length k x/\Pure prog 151 [.slice p u.J.length cc,.agg #[.bool x.told,.slice q1 x.locals.length d1,.slice q2 x.stack.length d2],.agg #[.bool A[at_.toNat].told,.slice p1 A[at_.toNat].locals.length c1,.slice p2 A[at_.toNat].stack.length c2]] h1 (.bool (Dn u.J x A[at_.toNat]))/\(Dn u.J x A[at_.toNat]=false->rU x < rU A[at_.toNat]):=λh1 x q1 q2 d1 d2 l1 hx hj htx=>by
   rcases hj with rfl|hj
   ·cases htx
   have jm:=Pk hA hj;have hX:=jm.1;exact⟨hX,CS p u.J.length cc u.J x A[at_.toNat] q1 q2 p1 p2 d1 d2 c1 c2 h1 (hcs.le (y_ a.le l1) (λ_ _ hx=>hx.le (y_ a.le l1))) ok (hx.le (iq h1 b)) (e3.le (y_ (iq h b) l1)) (by omega) (λt ht=>(hX.gj t ht).2) (λt ht=>(hX.cP t ht).2) (λt ht=>(hA.gj t ht).2) (λt ht=>(hA.cP t ht).2),jm.2⟩
  repeat' ((first|exact trivial|apply T_|refine aq ?_|refine ptr ?_|refine dJ e1 ?_|refine H8 nH Z2 (λv h1 l1 hr=>?_))<;>conv=>whnf)
  all_goals
   refine hr.elim λx hr=>?_;have hj:=hr.2;refine hr.1.elim λq1 hr=>hr.elim λd1 hr=>hr.elim λq2 hr=>hr.elim λd2 hr=>?_;have hv:=hr.1;subst hv;have r1:=hr.2;have a1:=a.aJ l1;have rst:=rest h1 x q1 q2 d1 d2 l1 r1 hj;have Dm:=ko x;refine(a1.at hi).elim λ_ hp=>hp.elim λ_ hp=>hp.elim λ_ hp=>hp.elim λ_ hp=>?_;have EJ:=hp.2.2.2;have e4:fj h1 b (0+at_.toNat*3) 3=_:=jr l1 _ _ _ e1;conv=>whnf
   generalize NN:x.told=xt at rst r1 ⊢;cases xt
   ·conv=>whnf
    repeat' ((first|exact trivial|exact same _ l1|apply T_)<;>conv=>whnf)
   ·have rs:=rst rfl;have hX:=rs.1;have fW:=rs.2.1;have gE:=rs.2.2;generalize hvb:Dn u.J x A[at_.toNat]=vb at fW gE;have fin:∀ h2,bh h2 b=bh h1 b->jf h0 h2 b c (A.set at_.toNat x)->vb=false->(bh h b).le (bh h2 b)/\∃ ch A',Value.bool true=.bool ch/\jf h0 h2 b c A'/\rV u.J.length k A'/\A'.length=A.length/\mu A'<=mu A/\(ch=true->mu A' < mu A):=λh2 hh a2 hf=>by
     have e1:Mj x=rU x:=by unfold Mj;rw[if_pos NN]
     have e2:Mj A[at_.toNat]=rU A[at_.toNat]:=by unfold Mj;rw[if_pos g]
     have:=gE hf;exact⟨by rw[hh];exact cy b l1,true,A.set at_.toNat x,rfl,a2,vN hV _ (λ_=>hX),by simp,by omega,λ_=>by omega⟩
    conv=>whnf
    repeat' ((first|exact trivial|apply T_|refine aq ?_|refine ptr ?_|refine dJ e4 ?_|refine aK fW ?_)<;>conv=>whnf)
    all_goals
     cases vb
     ·conv=>whnf
      refine aq ?_;conv=>whnf
      refine ptr ?_;conv=>whnf
      refine EJ _ x _ (NN ▸ Aw.of r1) (λh2 hh a2=>?_);conv=>whnf
      exact fin h2 hh a2 rfl
     ·conv=>whnf
      exact same _ l1
def eT (n:Nat) (k:Int) (s:dY) (r:Option dY):Prop:=∀ x,r=some x->rP n k x/\x.told=s.told
theorem eT.none {n:Nat} {k:Int} {s:dY}:eT n k s none:=λ_ h=>by cases h
theorem eT.self {n:Nat} {k:Int} {s:dY} (hs:rP n k s):eT n k s (some s):=λx h=>by cases h;exact⟨hs,rfl⟩
theorem eT.pop {n:Nat} {k:Int} {s:dY} (hs:rP n k s) (cs:List eD) (l:List Int):eT n k s (iA cs s l):=λx h=>by
 unfold iA at h;split at h
 ·cases h
  exact⟨⟨hs.loc,hs.gj,λt ht=>hs.cP t (List.mem_of_mem_take ht),by have:=hs.len;simp;omega⟩,rfl⟩
 ·cases h
theorem eT.push {n:Nat} {k:Int} {s:dY} {r:Option dY} (hr:eT n k s r) {t:Int} (ht:0<=t/\t < 8+(n:Int)):eT n k s (jo r t):=λx h=>by
 unfold jo at h;cases r with
 | none=>cases h
 | some y =>
  have:=hr y rfl;simp only at h;split at h
  ·cases h
  ·rename_i hc;cases h
   have hv:=this.1;refine⟨⟨hv.loc,hv.gj,λz hz=>?_,by simp;omega⟩,this.2⟩;rcases u_.1 hz with hz|hz
   ·exact hv.cP z hz
   ·rw[V_.1 hz];exact ht
theorem zH {n:Nat} {l:List Int} (hl:∀ t∈l,0<=t/\t < 8+(n:Int)) (i:Nat):0<=l.getD i 0/\l.getD i 0 < 8+(n:Int):=by
 by_cases h:i < l.length
 ·have e:l.getD i 0=l[i]:=by simp[h]
  rw[e];exact hl _ (x_ h)
 ·have e:l.getD i 0=0:=by rw[S_,List.getElem?_eq_none (by omega)];rfl
  rw[e];omega
theorem Mm {n:Nat} {k:Int} {s:dY} (hs:rP n k s) (cs:List eD) (i:ez):eT n k s (qv cs i s):=by
 unfold qv;repeat' split
 all_goals first
  | exact eT.none
  | exact eT.self hs
  | exact eT.pop hs _ _
  | exact(eT.self hs).push (by omega)
  | exact(eT.pop hs _ _).push (by omega)
  | exact(eT.self hs).push (zH hs.gj _)
  | exact(eT.self hs).push (hs.cP _ (List.mem_of_getLast? (by assumption)))
  | skip
 intro x hx;cases hx
 rename_i t ht;refine⟨⟨by simpa using hs.loc,λz hz=>?_,λz hz=>hs.cP z ((List.dropLast_sublist _).mem hz),by have:=hs.len;simp;omega⟩,rfl⟩;rcases List.mem_or_eq_of_mem_set hz with hz|rfl
 ·exact hs.gj z hz
 ·exact hs.cP _ (List.mem_of_getLast? ht)
theorem Mn {k:Int} {s:dY} {cs:List eD} (ok:cI cs) (hs:rP cs.length k s) (i:ez) (hi:12<=i.kind/\i.kind<=19) (hc:i.kind=12\/i.kind=17\/i.kind=18\/i.kind=19->0<=i.a/\i.a < cs.length):eT cs.length k s (wW cs i s):=by
 have h1:=ok.1;have ha:0<=zA i.a/\zA i.a < 8+(cs.length:Int):=by unfold zA;split<;>omega
 have he:0<=oz i.a/\oz i.a < 8+(cs.length:Int):=by unfold oz;split<;>omega
 unfold wW;split
 ·exact(eT.self hs).push (by have:=hc (.inl (by assumption));omega)
 split
 ·exact(eT.pop hs _ _).push ha
 split
 ·refine eT.push ?_ (by omega);split
  ·rename_i r hr;rw[<-hr];exact eT.pop hs _ _
  ·exact eT.pop hs _ _
 split
 ·exact(eT.pop hs _ _).push he
 split
 ·exact eT.pop hs _ _
 split
 ·have hx:=hc (.inr (.inl (by assumption)));refine(eT.pop hs _ _).push (zH (λt ht=>?_) _);have:=gC (oZ ok (i.a.toNat+1) (by omega) hx.2 t ht);omega
 split
 ·exact eT.pop hs _ _
 ·exact(eT.pop hs _ _).push (by have:=hc (.inr (.inr (.inr (by omega))));omega)
theorem sQ {u:aO} {m:cL} {k:Int} {s:dY} {i:ez} (hV:GI u) (hs:rP u.J.length k s) (hi:eU u m i):eT u.J.length k s (stepT u m i s):=by
 have ok:=hV.1;have h1:=ok.1;have NN:(i.kind=12\/i.kind=17\/i.kind=18\/i.kind=19->0<=i.a/\i.a < u.J.length)/\(i.kind=17\/i.kind=18->0<=i.b/\i.b < (dw u.J i.a).length):=hi.wO;unfold stepT;split
 ·exact eT.pop hs _ _
 split
 ·rename_i hk;have hm:¬(if i.kind=21 then find u i.a i.b else i.a) < 0->0<=(if i.kind=21 then find u i.a i.b else i.a)/\(if i.kind=21 then find u i.a i.b else i.a) < u.methods.length:=by
   obtain⟨kind,a,b⟩:=i;simp only at hk ⊢;split
   ·have:=jN u a b;omega
   ·have Uw:kind=20:=by omega
    subst Uw;have:=(aI (p:=7) (q:=0) rfl).1 hi;simp[bz]at this;omega
  unfold zB;generalize (if i.kind=21 then find u i.a i.b else i.a)=kk at hm;generalize (if i.kind=21 then [8+i.a]else [])=ll;simp only;by_cases hf:kk < 0
  ·rw[if_pos hf];exact eT.none
  ·rw[if_neg hf];have hr:=hV.aV (hm hf);have:=gC hr.2.2;exact(eT.pop hs _ _).push (by omega)
 split
 ·exact Mn ok hs i (by assumption) NN.1
 ·exact Mm hs _ _
theorem eU.jump {u:aO} {m:cL} {i:ez} (hi:eU u m i) (hj:eA i=true):0<=i.a/\i.a < m.code.length:=by
 obtain⟨k,a,b⟩:=i;unfold eA at hj;have hk:8<=k/\k<=11:=by simpa using hj
 have Uw:k=8\/k=9\/k=10\/k=11:=by omega
 rcases Uw with rfl|rfl|rfl|rfl;all_goals
  have:=(aI (p:=4) (q:=0) rfl).1 hi;simp[bz]at this;exact this.1
theorem wY {n:Nat} {k c:Int} {s:dY} (hs:rP n k s) (hc:0<=c/\c < n):rP n k (fu c s) :=
 ⟨hs.loc,hs.gj,λt ht=>by rw[V_.1 ht];omega,by simp[fu]⟩
def Tryz.G10:Fs:={L:=[2,3,5],LL:=[17,18],trees:=[(5,(.one 2 (.one 0 (.alt 1 (.one 3 (.one 4 (.one 5 (.one 6 .nil)))) (.alt 3 (.one 1 (.one 4 (.one 5 (.one 6 .nil)))) .eO)))))],M:=[28]}
theorem Tryz.Z3:aL G10 Tryz.f10 1=true:=by kernel_rfl
def Tryz.G25:Fs:={L:=[2,3,4,5,47,92,100,105,126],LL:=[9,22,23,36,38,69,79,82,89,99,104,115,117,123,146,152,157,158],cq:=[(2,[1,4,0,2,3,5]),(16,[0,2,3,1,4,5,6,7,8]),(20,[0,2,3,1,4,5,6,7,8,9,10]),(8,[0,2,1,3,4,5,6,7,8,9,10])],trees:=[(4,(.one 0 (.alt 1 (.one 2 (.one 3 .nil)) (.alt 2 (.one 1 (.one 3 .nil)) .eO)))),(18,(.one 0 (.one 2 (.one 3 (.one 5 (.one 9 (.one 10 (.one 1 (.one 4 (.one 6 (.one 7 (.one 11 (.one 12 (.alt 8 (.one 13 (.one 14 (.one 15 (.one 16 (.one 17 (.one 18 .nil)))))) (.alt 13 (.one 14 (.one 8 (.one 15 (.one 16 (.one 17 (.one 18 .nil)))))) .eO))))))))))))))),(23,(.one 0 (.one 2 (.one 7 (.one 8 (.one 1 (.one 3 (.one 4 (.one 5 (.one 9 (.one 10 (.alt 6 (.one 11 (.one 12 (.one 13 (.one 14 (.one 15 (.one 16 .nil)))))) (.alt 11 (.one 12 (.one 6 (.one 13 (.one 14 (.one 15 (.one 16 .nil)))))) .eO))))))))))))),(26,(.one 0 (.one 5 (.one 6 (.one 1 (.one 2 (.one 3 (.one 7 (.one 8 (.one 9 (.alt 4 (.one 10 (.one 11 (.one 12 .nil))) (.alt 10 (.one 4 (.one 11 (.one 12 .nil))) .eO)))))))))))),(27,(.one 0 (.alt 1 (.one 2 (.one 3 .nil)) (.alt 2 (.one 1 (.one 3 .nil)) .eO))))],M:=[24,28,50]}
theorem Tryz.Z4:aL G25 Tryz.f25 1=true:=by kernel_rfl
def Tryz.G26:Fs:={L:=[2,3,6],LL:=[33,44,52,55,84,95,103,110,112,117,119,123,126,132],cq:=[(8,[0,2,6,1,3,4,5,7,8,9]),(15,[0,2,4,8,1,3,5,6,7,9]),(16,[1,3,0,2,4,6,5,7]),(17,[0,2,6,1,3,4,7,5,8,9])],trees:=[(10,(.one 0 (.one 2 (.one 6 (.one 7 (.one 8 (.one 11 (.one 13 (.one 1 (.one 3 (.one 4 (.one 9 (.one 10 (.one 12 (.one 14 (.one 15 (.one 16 (.alt 5 (.one 17 (.one 18 (.one 19 .nil))) (.alt 17 (.one 5 (.one 18 (.one 19 .nil))) .eO))))))))))))))))))),(13,(.one 0 (.one 2 (.one 6 (.one 10 (.one 11 (.one 13 (.one 18 (.one 19 (.one 1 (.one 3 (.one 4 (.one 12 (.one 14 (.one 15 (.one 20 (.one 21 (.alt 5 (.one 7 (.one 8 (.alt 9 (.one 16 (.one 17 (.one 22 (.one 23 (.one 24 .nil))))) (.alt 16 (.alt 9 (.one 17 (.one 22 (.one 23 (.one 24 .nil)))) (.alt 17 (.alt 9 (.one 22 (.one 23 (.one 24 .nil))) (.alt 22 (.one 9 (.one 23 (.one 24 .nil))) .eO)) .eO)) .eO)))) (.alt 16 (.alt 5 (.one 7 (.one 8 (.alt 9 (.one 17 (.one 22 (.one 23 (.one 24 .nil)))) (.alt 17 (.alt 9 (.one 22 (.one 23 (.one 24 .nil))) (.alt 22 (.one 9 (.one 23 (.one 24 .nil))) .eO)) .eO)))) (.alt 17 (.alt 5 (.one 7 (.one 8 (.alt 9 (.one 22 (.one 23 (.one 24 .nil))) (.alt 22 (.one 9 (.one 23 (.one 24 .nil))) .eO)))) (.alt 22 (.one 5 (.one 7 (.one 8 (.one 9 (.one 23 (.one 24 .nil)))))) .eO)) .eO)) .eO)))))))))))))))))))],M:=[24,54,55,56]}
theorem Tryz.Z5:aL G26 Tryz.f26 1=true:=by kernel_rfl
def Tryz.G51:Fs:={L:=[2,3,5],LL:=[24,26],cq:=[(6,[0,2,4,8,1,3,5,6,7,9])],M:=[106]}
theorem Tryz.Z6:aL G51 Tryz.f51 1=true:=by kernel_rfl
def Tryz.G52:Fs:={L:=[3,4,6,109,132],LL:=[31,34,48,58,67,71,74,99,126,129],cq:=[(9,[0,2,3,1,4,5,6,7,8]),(11,[0,2,3,1,4,5,6,7]),(13,[0,2,3,4,7,1,5,6,8,9,10,11]),(21,[0,2,4,6,8,1,3,5,7,9,10,11,12,13,14]),(27,[0,2,3,1,4,5,6,7,8,9,10])],trees:=[(7,(.one 0 (.one 2 (.one 3 (.one 5 (.one 9 (.one 1 (.one 4 (.one 6 (.one 7 (.alt 8 (.one 10 (.one 11 (.one 12 (.one 13 (.one 14 (.one 15 .nil)))))) (.alt 10 (.one 8 (.one 11 (.one 12 (.one 13 (.one 14 (.one 15 .nil)))))) .eO))))))))))))],M:=[24,54,55]}
theorem Tryz.Z7:aL G52 Tryz.f52 2=true:=by kernel_rfl
def Tryz.G54:Fs:={L:=[6,7,22,44,59,66],LL:=[18],cq:=[(5,[0,2,3,1,4,5,6,7,8])],M:=[55]}
theorem Tryz.Z8:aL G54 Tryz.f54 3=true:=by kernel_rfl
def Tryz.Z9:Fs:={L:=[6,35,40],LL:=[31],cq:=[(10,[0,2,3,1,4,5,6,7,8])],M:=[111]}
theorem Tryz.Tf:aL Z9 Tryz.f104 1=true:=by kernel_rfl
def Tryz.aaa:Fs:={L:=[9,25,107],LL:=[63,80,89,99],cq:=[(17,[0,1,5,2,3,4,6,7,8,9,10]),(22,[0,1,2,3,4,5,6,7,8,9,11,12,10,13,14,15,16,17,18,19,21,22,20,23,24,25,26])],M:=[24]}
theorem Tryz.Tg:aL aaa Tryz.f105 2=true:=by kernel_rfl
def Tryz.aab:Fs:={L:=[39,44,67],LL:=[43],trees:=[(10,(.one 0 (.one 1 (.one 2 (.one 3 (.one 4 (.one 5 (.one 7 (.one 8 (.alt 6 (.one 9 (.one 10 (.one 11 (.one 12 (.one 13 (.one 14 (.one 15 (.one 16 .nil)))))))) (.alt 9 (.one 10 (.one 11 (.one 12 (.one 6 (.one 13 (.one 14 (.one 15 (.one 16 .nil)))))))) .eO))))))))))),(14,(.one 0 (.one 1 (.one 2 (.one 4 (.one 5 (.one 7 (.one 8 (.one 10 (.one 11 (.alt 3 (.alt 6 (.alt 9 (.one 12 (.one 13 (.one 14 (.one 15 .nil)))) (.alt 12 (.one 9 (.one 13 (.one 14 (.one 15 .nil)))) .eO)) (.alt 9 (.alt 6 (.one 12 (.one 13 (.one 14 (.one 15 .nil)))) (.alt 12 (.one 6 (.one 13 (.one 14 (.one 15 .nil)))) .eO)) (.alt 12 (.alt 6 (.one 9 (.one 13 (.one 14 (.one 15 .nil)))) (.alt 9 (.one 6 (.one 13 (.one 14 (.one 15 .nil)))) .eO)) .eO))) (.alt 6 (.alt 3 (.alt 9 (.one 12 (.one 13 (.one 14 (.one 15 .nil)))) (.alt 12 (.one 9 (.one 13 (.one 14 (.one 15 .nil)))) .eO)) (.alt 9 (.alt 3 (.one 12 (.one 13 (.one 14 (.one 15 .nil)))) (.alt 12 (.one 3 (.one 13 (.one 14 (.one 15 .nil)))) .eO)) (.alt 12 (.alt 3 (.one 9 (.one 13 (.one 14 (.one 15 .nil)))) (.alt 9 (.one 3 (.one 13 (.one 14 (.one 15 .nil)))) .eO)) .eO))) (.alt 9 (.alt 3 (.alt 6 (.one 12 (.one 13 (.one 14 (.one 15 .nil)))) (.alt 12 (.one 6 (.one 13 (.one 14 (.one 15 .nil)))) .eO)) (.alt 6 (.alt 3 (.one 12 (.one 13 (.one 14 (.one 15 .nil)))) (.alt 12 (.one 3 (.one 13 (.one 14 (.one 15 .nil)))) .eO)) (.alt 12 (.alt 3 (.one 6 (.one 13 (.one 14 (.one 15 .nil)))) (.alt 6 (.one 3 (.one 13 (.one 14 (.one 15 .nil)))) .eO)) .eO))) (.alt 12 (.alt 3 (.alt 6 (.one 9 (.one 13 (.one 14 (.one 15 .nil)))) (.alt 9 (.one 6 (.one 13 (.one 14 (.one 15 .nil)))) .eO)) (.alt 6 (.alt 3 (.one 9 (.one 13 (.one 14 (.one 15 .nil)))) (.alt 9 (.one 3 (.one 13 (.one 14 (.one 15 .nil)))) .eO)) (.alt 9 (.alt 3 (.one 6 (.one 13 (.one 14 (.one 15 .nil)))) (.alt 6 (.one 3 (.one 13 (.one 14 (.one 15 .nil)))) .eO)) .eO))) .eO))))))))))))))],M:=[24]}
theorem Tryz.Th:aL aab Tryz.f110 1=true:=by kernel_rfl
def Tryz.aac:Fs:={L:=[4,5,22],LL:=[18],cq:=[(5,[0,2,3,1,4,5,6,7,8])],M:=[111]}
theorem Tryz.Ti:aL aac Tryz.f147 2=true:=by kernel_rfl
def Tryz.aad:Fs:={L:=[4,5,10,12,13],LL:=[39,41,45,48,49,50,66,72,75,80],cq:=[(9,[0,1,3,2,4,5,6,7,9,10,8,11,12,13,14,15,16]),(14,[0,2,1,3,4,5,6,8,9,11,7,10,12,13,15,14,16,17])],M:=[205]}
theorem Tryz.Tj:aL aad Tryz.f185 4=true:=by kernel_rfl
structure Grown (h0 h:Heap) (b c n:Nat) (k:Int) (A:List dY) (h':Heap) (A':List dY) (ch:Bool):Prop where
 hle:(bh h b).le (bh h' b)
 all:jf h0 h' b c A'
 val:rV n k A'
 len:A'.length=A.length
 mu:mu A'<=mu A
 less:ch=true->Go.Proofs.mu A' < Go.Proofs.mu A
theorem Grown.start {h0 h:Heap} {b c n:Nat} {k:Int} {A:List dY} (a:jf h0 h b c A) (hA:rV n k A):Grown h0 h b c n k A h A false:=⟨z_ _,a,hA,rfl,Nat.le_refl _,λhx=>by cases hx⟩
theorem Grown.trans {h0 h h' Ao:Heap} {b c n:Nat} {k:Int} {A A' A'':List dY} {x y:Bool} (g:Grown h0 h b c n k A h' A' x) (g':Grown h0 h' b c n k A' Ao A'' y):Grown h0 h b c n k A Ao A'' (x||y) :=
 ⟨y_ g.hle g'.hle,g'.all,g'.val,by rw[g'.len,g.len],Nat.le_trans g'.mu g.mu,λhx=>by
  have h1:=g.mu;have h2:=g'.mu;rcases(by simpa using hx:x=true\/y=true)with hx|hx
  ·have:=g.less hx;omega
  ·have:=g'.less hx;omega⟩
theorem Grown.more {h0 h h' Ao:Heap} {b c n:Nat} {k:Int} {A A':List dY} {x:Bool} (g:Grown h0 h b c n k A h' A' x) (hl:h'.le Ao):Grown h0 h b c n k A Ao A' x :=
 ⟨y_ g.hle (cy b hl),g.all.aJ hl,g.val,g.len,g.mu,g.less⟩
theorem rW (us:List Value) (u:aO) (k:Int) (h0 h1 h:Heap) (b c:Nat) (A0 A:List dY) (x:Bool) (at_:Int) (s:dY) (v:Value) (n:Nat) (hn:A.length=n) (hu:dG h0 us u) (ok:cI u.J) (hk:k<=3) (g:Grown h0 h1 b c u.J.length k A0 h A x) (nR:0<=at_/\at_ < A.length) (Z1:A.length<=1000) (hs:rP u.J.length k s) (ht:s.told=true) (hr:Aw (bh h b) v s) :
  bI prog 205 [.agg ⟨us⟩,.slice (some ⟨b,0,none⟩) n c,.int .i64 at_,v] h
   λv h'=>∃ ch A',v=.bool ch/\Grown h0 h1 b c u.J.length k A0 h' A' (x||ch)/\(bh h b).le (bh h' b):=by
 subst hn;obtain⟨p1,c1,p2,c2,rfl,hI⟩:=hr;refine bI.mono (GK us u k h0 h b c A at_ s p1 p2 c1 c2 hu ok hk g.all g.val nR Z1 hs ht hI) λv h' hh=>?_;obtain⟨hl,ch,A',rfl,a',hv,e1,e2,e3⟩:=hh;exact⟨ch,A',rfl,g.trans ⟨hl,a',hv,e1,e2,e3⟩,hl⟩
theorem Aw.le {h h':Heap} (hl:h.le h') {v:Value} {s:dY} (hr:Aw h v s):Aw h' v s:=by
 obtain⟨p1,c1,p2,c2,e,hI⟩:=hr;exact⟨p1,c1,p2,c2,e,hI.le hl⟩
theorem EK (us ms:List Value) (u:aO) (m:cL) (h0 h:Heap) (b c:Nat) (A:List dY) (at_:Int) (hu:dG h0 us u) (hm:eM h0 ms m) (hV:GI u) (hM:Td u m) (a:jf h0 h b c A) (hA:rV u.J.length m.locals A) (Z1:A.length=m.code.length) (nR:0<=at_/\at_ < A.length) :
  bI prog 185 [.agg ⟨us⟩,.agg ⟨ms⟩,.slice (some ⟨b,0,none⟩) A.length c,.int .i64 at_] h
   λv h'=>∃ ch A',v=.bool ch/\Grown h0 h b c u.J.length m.locals A h' A' ch:=by
 have iw:=hu;have JU:=hm;have ok:=hV.1;have zi:=ok.2.1;have tQ:=hM.head.2.2.2.2.1;have lI:=hM.len.2;obtain⟨p,cc,q,d,rfl,hcs,fM,ji,hl2⟩:=hu.form;obtain⟨p1,c1,p2,c2,p3,c3,p4,c4,rfl,k1,k2,k3,k4,k5,k6,k7,k8,d1,d2,d3,d4⟩:=hm.form;have hi:at_.toNat < A.length:=by omega
 have ef:=x_ hi;obtain⟨lp,lc,kp,kc,e1,e2,e3,_⟩:=a.at hi;have hAt:=hA _ ef;generalize hs:A[at_.toNat]=s at e1 e2 e3 hAt;clear hs;have g0:=Grown.start a hA;have EL:at_.toNat < m.code.length:=by omega
 obtain⟨bi,oi,vi,sR,f1,f2,f3⟩:=k6.get EL;have mT:m.code.getD at_.toNat ep=m.code[at_.toNat]:=by simp[EL]
 have lQ:=hM.code _ (x_ EL);have CV:∀ hh:Heap,h0.le hh->(hs:rP u.J.length m.locals s)->tq hh s lp kp lc kc->_:=λhh hl hs hI=>wX _ _ u m at_ s lp kp lc kc hh (iw.le hl) (JU.le hl) hV hI hs tQ (by omega) (by rw[mT];exact lQ) hM.head.2.2.1;rw[mT]at CV;have rZ:=λhj=>lQ.jump hj;have aae:=λhs:rP u.J.length m.locals s=>sQ (m:=m) hV hs lQ;subst f2;generalize m.code[at_.toNat]=x at f1 lQ CV rZ aae;obtain⟨ik,ia,ib⟩:=x;simp only at f1 rZ;refine bZ au func185 aad Tj rfl ?_;conv=>whnf
 repeat' ((first|refine ld e2 ?_|refine aq ?_|refine ah ?_|refine ptr ?_)<;>conv=>whnf)
 apply cJ<;>intro g;all_goals conv=>whnf
 ·exact⟨false,A,rfl,g0⟩
 have hs:=hAt g;have adU:=CV (bh h b) a.hle hs e3;repeat' ((first|refine dJ e1 ?_|refine aq ?_|refine ah ?_|refine ptr ?_)<;>conv=>whnf)
 refine fh [2,3,4,5,9,10,11] [4,5,10] (λy:Nat × Heap × List dY × Bool=>y.1<=m.catches.length/\Grown h0 h b c u.J.length m.locals A y.2.1 y.2.2.1 y.2.2.2) (λy=>m.catches.length-y.1)
  (λy=>([.v (.slice (some ⟨b,0,none⟩) A.length c),.v (.int .i64 at_),.l 4 0,.l 5 0,.v (.bool y.2.2.2),.l 10 0,.v (.int .i64 y.1)],
   [some [.slice p u.J.length cc,.slice q u.methods.length d],some [.int .i64 m.cls,.int .i64 m.fG,.slice p1 m.args.length c1,.int .i64 m.out,.int .i64 m.locals,.slice p2 m.code.length c2,.slice p3 m.aQ.length c3,.slice p4 m.catches.length c4],some [.bool s.told,.slice lp s.locals.length lc,.slice kp s.stack.length kc]],y.2.1))
  (0,h,A,false) ⟨by omega,g0⟩ rfl ?_
 rintro⟨i,h5,A5,x5⟩ ⟨hi5,g5⟩;simp only at hi5 g5 ⊢;have Ny:=g5.len;conv=>whnf
 apply ax<;>intro g2;all_goals conv=>whnf
 ·have bV:i < m.catches.length:=by omega
  obtain⟨bb,off,vs,Mo,w1,w2,w3⟩:=k8.get bV;subst w2;have Gv:=hM.cat.2 _ (x_ bV);generalize m.catches[i]=ct at w1 w3 Gv;obtain⟨lo,xp,to,cls⟩:=ct;obtain⟨⟨ct1,ct2,Tk,Tl⟩,⟨ct5,ct6⟩,⟨Q4,Q5⟩,_⟩:=Gv;simp only at w1 ct1 ct2 Tk Tl ct5 ct6 Q4 Q5;have ac3:h0.le h5:=g5.all.le;have EM:=jr ac3 _ _ _ w1;repeat' ((first|refine aG Mo ?_|refine dJ EM ?_|refine aq ?_|refine ah ?_|refine ptr ?_)<;>conv=>whnf)
  have h6:=λhh=>dP at_ lo (xp-1) hh;have NA:=wY hs ⟨Q4,Q5⟩;obtain⟨o,nH⟩:=g5.all.in;have GL:=rT lo xp to cls s lp kp lc kc (bh h5 b) (e3.le g5.hle) (by have:=hs.loc;omega) (by omega);generalize decide (lo<=at_/\at_<=xp-1)=bb6 at h6;cases bb6
  ·repeat' ((first|exact trivial|apply T_|refine ah ?_|refine aK (h6 _) ?_)<;>conv=>whnf)
   all_goals exact dm (i+1,h5,A5,x5) ⟨by simp only;omega,g5⟩ (by simp only;omega) rfl
  ·repeat' ((first|exact trivial|apply T_|refine ah ?_|refine aK (h6 _) ?_|refine H8 nH GL (λv h7 l7 hr=>?_))<;>conv=>whnf)
   all_goals
    have g7:=g5.more l7;refine aC (rW _ u m.locals h0 h h7 b c A A5 x5 to (fu cls s) _ _ Ny iw ok tQ g7 (by omega) (by omega) NA rfl hr) (λv h8 hh=>?_);refine hh.elim λch hh=>hh.elim λA8 hh=>?_;have hv:=hh.1;subst hv;have g8:=hh.2.1;cases ch
    ·conv=>whnf
     refine ah ?_;conv=>whnf
     exact dm (i+1,h8,A8,x5) ⟨by simp only;omega,by simpa using g8⟩ (by simp only;omega) rfl
    ·conv=>whnf
     refine ah ?_;conv=>whnf
     exact dm (i+1,h8,A8,true) ⟨by simp only;omega,by simpa using g8⟩ (by simp only;omega) rfl
 ·obtain⟨o,nH⟩:=g5.all.in;have eB:=CV (bh h5 b) g5.all.hle hs (e3.le g5.hle);have Mp:=aae hs;generalize stepT u m ⟨ik,ia,ib⟩ s=res at eB Mp;refine lU nH eB (λv h6 l6 hr=>?_);have g6:=g5.more l6;have Pm:=jr g6.all.le _ _ _ f1;have Mq:=λhh=>kO ik ia ib hh;have Jb:=λhh=>o7 ik ia ib hh;cases res with
  | none =>
   refine hr.elim λa1 hr=>hr.elim λq1 hr=>hr.elim λn1 hr=>hr.elim λe1 hr=>hr.elim λq2 hr=>hr.elim λn2 hr=>hr.elim λe2 hv=>?_;subst hv;conv=>whnf
   exact⟨x5,A5,rfl,g6⟩
  | some s6 =>
   have hs6:=Mp s6 rfl;have ht6:=hs6.2.trans g;have ZU:=g6.len;refine hr.elim λq1 hr=>hr.elim λe1 hr=>hr.elim λq2 hr=>hr.elim λe2 hr=>?_;have hv:=hr.1;subst hv;have NV:=hr.2;have hR6:Aw (bh h6 b) (.agg #[.bool s6.told,.slice q1 s6.locals.length e1,.slice q2 s6.stack.length e2]) s6:=⟨_,_,_,_,rfl,NV⟩
   generalize eA ⟨ik,ia,ib⟩=j at Mq rZ;generalize kn ⟨ik,ia,ib⟩=en at Jb;have last:∀(h7:Heap) (A7:List dY) (x7:Bool),Grown h0 h b c u.J.length m.locals A h7 A7 x7->(bh h6 b).le (bh h7 b)->(at_+1 < m.code.length->bI prog 205 [.agg ⟨[.slice p u.J.length cc,.slice q u.methods.length d]⟩,.slice (some ⟨b,0,none⟩) A.length c,.int .i64 (at_+1),.agg #[.bool s6.told,.slice q1 s6.locals.length e1,.slice q2 s6.stack.length e2]] h7 λv h'=>∃ ch A',v=.bool ch/\Grown h0 h b c u.J.length m.locals A h' A' (x7||ch)/\(bh h7 b).le (bh h' b))/\fj h7 bi (oi+at_.toNat*3) 3=some [.int .i64 ik,.int .i64 ia,.int .i64 ib]:=λh7 A7 x7 g7 l7=>⟨λgE=>by
    have hl7:=g7.len;exact rW _ u m.locals h0 h h7 b c A A7 x7 (at_+1) s6 _ _ hl7 iw ok tQ g7 (by omega) (by omega) hs6.1 ht6 (hR6.le l7),jr g7.all.le _ _ _ f1⟩
   have r1:=aE Pm (i:=1) rfl;conv=>whnf
   cases j
   ·repeat' ((first|exact trivial|apply T_|refine aq ?_|refine aG sR ?_|refine dJ Pm ?_|refine aK (Mq _) ?_)<;>conv=>whnf)
    all_goals
     have Mr:=last h6 A5 x5 g6 (z_ _);cases en
     ·conv=>whnf
      repeat' ((first|refine aG sR ?_|refine dJ Mr.2 ?_|refine aj (Jb _) ?_|refine aq ?_|refine ah ?_|refine ptr ?_)<;>conv=>whnf)
      apply ax<;>intro g9;all_goals conv=>whnf
      ·repeat' ((first|refine aq ?_|refine ah ?_|refine ptr ?_)<;>conv=>whnf)
       refine aC (Mr.1 g9) (λv h9 hh=>?_);refine hh.elim λch9 hh=>hh.elim λA9 hh=>?_;have hv:=hh.1;subst hv;have Dp:=hh.2.1;cases ch9
       ·conv=>whnf
        exact⟨x5,A9,rfl,by simpa using Dp⟩
       ·conv=>whnf
        exact⟨true,A9,rfl,by simpa using Dp⟩
      ·exact⟨x5,A5,rfl,g6⟩
     ·conv=>whnf
      repeat' ((first|refine aG sR ?_|refine dJ Mr.2 ?_|refine aj (Jb _) ?_|refine aq ?_|refine ah ?_|refine ptr ?_)<;>conv=>whnf)
      exact⟨x5,A5,rfl,g6⟩
   ·have hj:=rZ rfl;repeat' ((first|exact trivial|apply T_|refine aq ?_|refine aG sR ?_|refine dJ Pm ?_|refine ld r1 ?_|refine aK (Mq _) ?_)<;>conv=>whnf)
    all_goals
     refine aC (rW _ u m.locals h0 h h6 b c A A5 x5 ia s6 _ _ ZU iw ok tQ g6 (by omega) (by omega) hs6.1 ht6 hR6) (λv h7 hh=>?_);refine hh.elim λch hh=>hh.elim λA7 hh=>?_;have hv:=hh.1;subst hv;have g7:=hh.2.1;have l7:=hh.2.2;cases ch
     ·have g8:Grown h0 h b c u.J.length m.locals A h7 A7 x5:=by simpa using g7
      conv=>whnf
      have Mr:=last h7 A7 x5 g8 l7;cases en
      ·conv=>whnf
       repeat' ((first|refine aG sR ?_|refine dJ Mr.2 ?_|refine aj (Jb _) ?_|refine aq ?_|refine ah ?_|refine ptr ?_)<;>conv=>whnf)
       apply ax<;>intro g9;all_goals conv=>whnf
       ·repeat' ((first|refine aq ?_|refine ah ?_|refine ptr ?_)<;>conv=>whnf)
        refine aC (Mr.1 g9) (λv h9 hh=>?_);refine hh.elim λch9 hh=>hh.elim λA9 hh=>?_;have hv:=hh.1;subst hv;have Dp:=hh.2.1;cases ch9
        ·conv=>whnf
         exact⟨x5,A9,rfl,by simpa using Dp⟩
        ·conv=>whnf
         exact⟨true,A9,rfl,by simpa using Dp⟩
       ·exact⟨x5,A7,rfl,g8⟩
      ·conv=>whnf
       repeat' ((first|refine aG sR ?_|refine dJ Mr.2 ?_|refine aj (Jb _) ?_|refine aq ?_|refine ah ?_|refine ptr ?_)<;>conv=>whnf)
       exact⟨x5,A7,rfl,g8⟩
     ·have g8:Grown h0 h b c u.J.length m.locals A h7 A7 true:=by simpa using g7
      conv=>whnf
      have Mr:=last h7 A7 true g8 l7;cases en
      ·conv=>whnf
       repeat' ((first|refine aG sR ?_|refine dJ Mr.2 ?_|refine aj (Jb _) ?_|refine aq ?_|refine ah ?_|refine ptr ?_)<;>conv=>whnf)
       apply ax<;>intro g9;all_goals conv=>whnf
       ·repeat' ((first|refine aq ?_|refine ah ?_|refine ptr ?_)<;>conv=>whnf)
        refine aC (Mr.1 g9) (λv h9 hh=>?_);refine hh.elim λch9 hh=>hh.elim λA9 hh=>?_;have hv:=hh.1;subst hv;have Dp:=hh.2.1;cases ch9
        ·conv=>whnf
         exact⟨true,A9,rfl,by simpa using Dp⟩
        ·conv=>whnf
         exact⟨true,A9,rfl,by simpa using Dp⟩
       ·exact⟨true,A7,rfl,g8⟩
      ·conv=>whnf
       repeat' ((first|refine aG sR ?_|refine dJ Mr.2 ?_|refine aj (Jb _) ?_|refine aq ?_|refine ah ?_|refine ptr ?_)<;>conv=>whnf)
       exact⟨true,A7,rfl,g8⟩
def eZ (m:cL) (i:Int):ez:=m.code.getD i.toNat ep
def jE (m:cL) (i:Int):Bool:=(decide (0 < i)&&kn (eZ m (i-1)))||m.code.any (λx=>eA x&&decide (x.a=i))||m.catches.any (λc=>decide (c.to=i))
theorem kW {α:Type} {l:List α} {d:α} {i:Nat} (h:i < l.length):l.getD i d=l[i]:=by simp[h]
theorem CW {α:Type} {l:List α} {p:α->Bool} {i:Nat} (hi:i < l.length) (h:p l[i]=true):l.any p=true:=List.any_eq_true.2 ⟨_,x_ hi,h⟩
theorem any_none {α:Type} {l:List α} {p:α->Bool} (h:∀ j (hj:j < l.length),p l[j]=false):l.any p=false:=by
 rw[List.any_eq_false];intro x hx;obtain⟨j,hj,rfl⟩:=List.mem_iff_getElem.1 hx;rw[h j hj];simp
theorem EN (ms:List Value) (m:cL) (at_:Int) (h:Heap) (hm:eM h ms m) (nR:0<=at_/\at_ < m.code.length) :
  Pure prog 186 [.agg ⟨ms⟩,.int .i64 at_] h (.bool (jE m at_)):=by
 obtain⟨p1,c1,p2,c2,p3,c3,p4,c4,rfl,k1,k2,k3,k4,k5,k6,k7,k8,d1,d2,d3,d4⟩:=hm.form;have yes:jE m at_=true->Value.bool true=.bool (jE m at_):=λe=>by rw[e]
 have no:jE m at_=false->Value.bool false=.bool (jE m at_):=λe=>by rw[e]
 have loops:(decide (0 < at_)&&kn (eZ m (at_-1)))=false->jE m at_=(m.code.any (λx=>eA x&&decide (x.a=at_))||m.catches.any (λc=>decide (c.to=at_))):=λe=>by unfold jE;rw[e,Bool.false_or]
 have first:(decide (0 < at_)&&kn (eZ m (at_-1)))=true->jE m at_=true:=λe=>by unfold jE;rw[e,Bool.true_or,Bool.true_or]
 have Tm:∀ {i:Nat} (hi:i < m.code.length),∃ bi oi,p2=some ⟨bi,oi,none⟩/\fj h bi (oi+i*3) 3=some [.int .i64 m.code[i].kind,.int .i64 m.code[i].a,.int .i64 m.code[i].b]:=λhi=>by
  obtain⟨bi,oi,vi,sR,f1,f2,f3⟩:=k6.get hi;subst f2;exact⟨bi,oi,sR,f1⟩
 have aaf:∀ {i:Nat} (hi:i < m.catches.length),∃ bi oi,p4=some ⟨bi,oi,none⟩/\rd h bi (oi+i*4+2)=some (.int .i64 m.catches[i].to):=λhi=>by
  obtain⟨bi,oi,vi,sR,f1,f2,f3⟩:=k8.get hi;subst f2;exact⟨bi,oi,sR,aE f1 (i:=2) rfl⟩
 clear k5 k6 k7 k8;refine iC au func186 XD XF rfl ?_;conv=>whnf
 apply ax<;>intro g;all_goals conv=>whnf
 ·have hi:(at_-1).toNat < m.code.length:=by omega
  obtain⟨bi,oi,sR,f1⟩:=Tm hi;have he:=o7 m.code[(at_-1).toNat].kind m.code[(at_-1).toNat].a m.code[(at_-1).toNat].b h;have Qx:eZ m (at_-1)=m.code[(at_-1).toNat]:=kW hi;rw[Qx]at loops first;rw[decide_eq_true g,Bool.true_and]at loops first;change Pure _ _ _ _ (.bool (kn m.code[(at_-1).toNat]))at he
  generalize kn m.code[(at_-1).toNat]=en at he loops first;repeat' ((first|refine aG sR ?_|refine dJ f1 ?_|refine aj he ?_|refine aq ?_|refine ah ?_|refine ptr ?_)<;>conv=>whnf)
  cases en
  ·replace loops:=loops rfl
   conv=>whnf
   refine fh [1,2,5] [2] (λi:Nat=>i<=m.code.length/\∀ j (hj:j < m.code.length),j < i->(eA m.code[j]&&decide (m.code[j].a=at_))=false) (λi=>m.code.length-i)
    (λi=>([.v (.int .i64 at_),.l 2 0,.v (.int .i64 i)],[some [.int .i64 m.cls,.int .i64 m.fG,.slice p1 m.args.length c1,.int .i64 m.out,.int .i64 m.locals,.slice p2 m.code.length c2,.slice p3 m.aQ.length c3,.slice p4 m.catches.length c4]],h)) 0 ⟨by omega,λ_ _ hx=>by omega⟩ rfl ?_
   rintro i ⟨hi,hg⟩;conv=>whnf
   apply ax<;>intro g2;all_goals conv=>whnf
   ·have bV:i < m.code.length:=by omega
    obtain⟨bi,oi,sR,f1⟩:=Tm bV;have r1:=aE f1 (i:=1) rfl;have hj:=kO m.code[i].kind m.code[i].a m.code[i].b h;change Pure _ _ _ _ (.bool (eA m.code[i]))at hj
    have Ms:eA m.code[i]=true->m.code[i].a=at_->jE m at_=true:=λe1 e2=>by
     rw[loops,CW bV (by rw[e1,decide_eq_true e2];rfl),Bool.true_or]
    have next:(eA m.code[i]&&decide (m.code[i].a=at_))=false->∀ j (hj:j < m.code.length),j < i+1->(eA m.code[j]&&decide (m.code[j].a=at_))=false:=λe j hj jj=>by
     rcases Nat.lt_succ_iff_lt_or_eq.1 jj with iu|rfl
     ·exact hg j hj iu
     ·exact e
    generalize hjx:eA m.code[i]=j at hj Ms next;repeat' ((first|refine aG sR ?_|refine dJ f1 ?_|refine aj hj ?_|refine aq ?_|refine ah ?_|refine ptr ?_)<;>conv=>whnf)
    cases j
    ·conv=>whnf
     refine ah ?_;conv=>whnf
     exact dm (i+1) ⟨by omega,next rfl⟩ (by omega) rfl
    ·conv=>whnf
     repeat' ((first|refine aG sR ?_|refine ld r1 ?_|refine aq ?_|refine ah ?_|refine ptr ?_)<;>conv=>whnf)
     apply ax<;>intro g4;all_goals conv=>whnf
     ·exact⟨yes (Ms rfl g4),rfl⟩
     ·refine ah ?_;conv=>whnf
      exact dm (i+1) ⟨by omega,next (by rw[decide_eq_false g4];rfl)⟩ (by omega) rfl
   ·have Tn:=any_none (p:=λx=>eA x&&decide (x.a=at_)) (l:=m.code) (λj hj=>hg j hj (by omega));rw[Tn,Bool.false_or]at loops;refine fh [1,2,6] [2] (λi:Nat=>i<=m.catches.length/\∀ j (hj:j < m.catches.length),j < i->(decide (m.catches[j].to=at_))=false) (λi=>m.catches.length-i)
     (λi=>([.v (.int .i64 at_),.l 2 0,.v (.int .i64 i)],[some [.int .i64 m.cls,.int .i64 m.fG,.slice p1 m.args.length c1,.int .i64 m.out,.int .i64 m.locals,.slice p2 m.code.length c2,.slice p3 m.aQ.length c3,.slice p4 m.catches.length c4]],h)) 0 ⟨by omega,λ_ _ hx=>by omega⟩ rfl ?_
    rintro i ⟨hi,tY⟩;conv=>whnf
    apply ax<;>intro g2;all_goals conv=>whnf
    ·have bV:i < m.catches.length:=by omega
     obtain⟨bi,oi,sR,r1⟩:=aaf bV;repeat' ((first|refine aG sR ?_|refine ld r1 ?_|refine aq ?_|refine ah ?_|refine ptr ?_)<;>conv=>whnf)
     apply ax<;>intro g4;all_goals conv=>whnf
     ·exact⟨yes (by rw[loops];exact CW bV (decide_eq_true g4)),rfl⟩
     ·refine ah ?_;conv=>whnf
      refine dm (i+1) ⟨by omega,λj hj jj=>?_⟩ (by omega) rfl;rcases Nat.lt_succ_iff_lt_or_eq.1 jj with iu|rfl
      ·exact tY j hj iu
      ·exact decide_eq_false g4
    ·have Mt:=any_none (p:=λx:nK=>decide (x.to=at_)) (l:=m.catches) (λj hj=>tY j hj (by omega));exact⟨no (by rw[loops];exact Mt),rfl⟩
  ·conv=>whnf
   exact⟨yes (first rfl),rfl⟩
 ·rw[decide_eq_false g,Bool.false_and]at loops;replace loops:=loops rfl
  refine fh [1,2,5] [2] (λi:Nat=>i<=m.code.length/\∀ j (hj:j < m.code.length),j < i->(eA m.code[j]&&decide (m.code[j].a=at_))=false) (λi=>m.code.length-i)
   (λi=>([.v (.int .i64 at_),.l 2 0,.v (.int .i64 i)],[some [.int .i64 m.cls,.int .i64 m.fG,.slice p1 m.args.length c1,.int .i64 m.out,.int .i64 m.locals,.slice p2 m.code.length c2,.slice p3 m.aQ.length c3,.slice p4 m.catches.length c4]],h)) 0 ⟨by omega,λ_ _ hx=>by omega⟩ rfl ?_
  rintro i ⟨hi,hg⟩;conv=>whnf
  apply ax<;>intro g2;all_goals conv=>whnf
  ·have bV:i < m.code.length:=by omega
   obtain⟨bi,oi,sR,f1⟩:=Tm bV;have r1:=aE f1 (i:=1) rfl;have hj:=kO m.code[i].kind m.code[i].a m.code[i].b h;change Pure _ _ _ _ (.bool (eA m.code[i]))at hj
   have Ms:eA m.code[i]=true->m.code[i].a=at_->jE m at_=true:=λe1 e2=>by
    rw[loops,CW bV (by rw[e1,decide_eq_true e2];rfl),Bool.true_or]
   have next:(eA m.code[i]&&decide (m.code[i].a=at_))=false->∀ j (hj:j < m.code.length),j < i+1->(eA m.code[j]&&decide (m.code[j].a=at_))=false:=λe j hj jj=>by
    rcases Nat.lt_succ_iff_lt_or_eq.1 jj with iu|rfl
    ·exact hg j hj iu
    ·exact e
   generalize hjx:eA m.code[i]=j at hj Ms next;repeat' ((first|refine aG sR ?_|refine dJ f1 ?_|refine aj hj ?_|refine aq ?_|refine ah ?_|refine ptr ?_)<;>conv=>whnf)
   cases j
   ·conv=>whnf
    refine ah ?_;conv=>whnf
    exact dm (i+1) ⟨by omega,next rfl⟩ (by omega) rfl
   ·conv=>whnf
    repeat' ((first|refine aG sR ?_|refine ld r1 ?_|refine aq ?_|refine ah ?_|refine ptr ?_)<;>conv=>whnf)
    apply ax<;>intro g4;all_goals conv=>whnf
    ·exact⟨yes (Ms rfl g4),rfl⟩
    ·refine ah ?_;conv=>whnf
     exact dm (i+1) ⟨by omega,next (by rw[decide_eq_false g4];rfl)⟩ (by omega) rfl
  ·have Tn:=any_none (p:=λx=>eA x&&decide (x.a=at_)) (l:=m.code) (λj hj=>hg j hj (by omega));rw[Tn,Bool.false_or]at loops;refine fh [1,2,6] [2] (λi:Nat=>i<=m.catches.length/\∀ j (hj:j < m.catches.length),j < i->(decide (m.catches[j].to=at_))=false) (λi=>m.catches.length-i)
    (λi=>([.v (.int .i64 at_),.l 2 0,.v (.int .i64 i)],[some [.int .i64 m.cls,.int .i64 m.fG,.slice p1 m.args.length c1,.int .i64 m.out,.int .i64 m.locals,.slice p2 m.code.length c2,.slice p3 m.aQ.length c3,.slice p4 m.catches.length c4]],h)) 0 ⟨by omega,λ_ _ hx=>by omega⟩ rfl ?_
   rintro i ⟨hi,tY⟩;conv=>whnf
   apply ax<;>intro g2;all_goals conv=>whnf
   ·have bV:i < m.catches.length:=by omega
    obtain⟨bi,oi,sR,r1⟩:=aaf bV;repeat' ((first|refine aG sR ?_|refine ld r1 ?_|refine aq ?_|refine ah ?_|refine ptr ?_)<;>conv=>whnf)
    apply ax<;>intro g4;all_goals conv=>whnf
    ·exact⟨yes (by rw[loops];exact CW bV (decide_eq_true g4)),rfl⟩
    ·refine ah ?_;conv=>whnf
     refine dm (i+1) ⟨by omega,λj hj jj=>?_⟩ (by omega) rfl;rcases Nat.lt_succ_iff_lt_or_eq.1 jj with iu|rfl
     ·exact tY j hj iu
     ·exact decide_eq_false g4
   ·have Mt:=any_none (p:=λx:nK=>decide (x.to=at_)) (l:=m.catches) (λj hj=>tY j hj (by omega));exact⟨no (by rw[loops];exact Mt),rfl⟩
def Bz (r:List Value):Prop:=∃ p c q d,r=[.bool false,.slice p 0 c,.slice q 0 d]
theorem Bz.To {r:List Value} (hr:Bz r) (h:Heap):mV h r mh:=by
 obtain⟨p,c,q,d,rfl⟩:=hr;exact⟨_,_,rfl,iP _ _ _,iP _ _ _⟩
theorem BA {h h':Heap} {p:Option Addr} {k c:Nat} {aS:List (List Value)} {B:List Nat} (ho:cr 3 h' (.slice p k c) aS B) (hn:aS.length=k) (hk:1<=k) (hr:∀ r∈aS,Bz r) (hB:∀ b∈B,h b=none) (hl:h.le h') :
  ∃ b,p=some ⟨b,0,none⟩/\jf h h' b c (List.replicate k mh):=by
 have AS:=ho;obtain⟨hx,⟨he,NH,_⟩|⟨b,c',rest,t,he,hc,hb,_,rfl⟩⟩:=ho
 ·rw[NH]at hn;simp at hn;omega
 simp only[Z_]at he;obtain⟨rfl,SE,rfl⟩:=he;refine⟨b,rfl,hl,hB b (by simp),aS,by simpa using AS,by simpa using hn,λi h1 h2=>?_⟩;rw[List.getElem_replicate];exact(hr _ (x_ h1)).To _
theorem GM (us ms:List Value) (u:aO) (m:cL) (h:Heap) (hu:dG h us u) (hm:eM h ms m) (hV:GI u) (hM:Td u m) :
  bI prog 156 [.agg ⟨us⟩,.agg ⟨ms⟩] h
   λv h'=>h.le h'/\∃ b c A,v=.slice (some ⟨b,0,none⟩) A.length c/\jf h h' b c A/\A.length=m.code.length/\rV u.J.length m.locals A:=by
 have iw:=hu;have JU:=hm;have ok:=hV.1;have zi:=ok.2.1;have tQ:=hM.head.2.2.2.2.1;have lI:=hM.len;have Po:=λh1 b c A at_ a hA Z1 nR=>EK us ms u m h h1 b c A at_ hu hm hV hM a hA Z1 nR;have zI:=λhh (hl:h.le hh)=>uz us ms m u.J.length hh (hm.le hl) hM.head zi;have aag:=λat_ hh (hl:h.le hh) nR=>EN ms m at_ hh (hm.le hl) nR;obtain⟨p,cc,q,d,rfl,hcs,fM,ji,hl2⟩:=hu.form;obtain⟨p1,c1,p2,c2,p3,c3,p4,c4,rfl,k1,k2,k3,k4,k5,k6,k7,k8,d1,d2,d3,d4⟩:=hm.form;refine bZ au func156 WV WW rfl ?_;conv=>whnf
 refine ec [] rfl (λb0 h1 tZ e0 l1 g0=>?_);conv=>whnf
 have o0:cr 3 h1 (.slice (some ⟨b0,0,none⟩) 0 0) [] [b0]:=⟨by simp,.inr ⟨b0,0,[],_,rfl,by simp,by simpa using g0,by simp,rfl⟩⟩
 refine fh [2,3,5,6] [2,3] (λy:Nat × Heap × Option Addr × Nat × List (List Value) × List Nat=>y.1<=m.code.length/\h.le y.2.1/\cr 3 y.2.1 (.slice y.2.2.1 y.1 y.2.2.2.1) y.2.2.2.2.1 y.2.2.2.2.2/\y.2.2.2.2.1.length=y.1/\(∀ r∈y.2.2.2.2.1,Bz r)/\∀ b∈y.2.2.2.2.2,h b=none) (λy=>m.code.length-y.1)
  (λy=>([.l 2 0,.l 3 0,.v (.slice y.2.2.1 y.1 y.2.2.2.1),.v (.int .i64 y.1)],
   [some [.slice p u.J.length cc,.slice q u.methods.length d],some [.int .i64 m.cls,.int .i64 m.fG,.slice p1 m.args.length c1,.int .i64 m.out,.int .i64 m.locals,.slice p2 m.code.length c2,.slice p3 m.aQ.length c3,.slice p4 m.catches.length c4]],y.2.1))
  (0,h1,some ⟨b0,0,none⟩,0,[],[b0]) ⟨by omega,l1,o0,rfl,by simp,by simpa using tZ⟩ rfl ?_
 rintro⟨k,h2,pa,ca,aS,B⟩ ⟨hk,l2,o2,n2,r2,f2⟩;simp only at hk l2 o2 n2 r2 f2 ⊢;conv=>whnf
 apply ax<;>intro g;all_goals conv=>whnf
 ·refine aC (kM h2) (λv h3 hh=>?_);have l3:=hh.1;refine hh.2.elim λb1 hh=>hh.elim λb2 hv=>?_;subst hv;conv=>whnf
  refine dA (h0:=h) (xs:=aS) (ys:=[[.bool false,.slice (some ⟨b1,0,none⟩) 0 0,.slice (some ⟨b2,0,none⟩) 0 0]]) (B:=B) (o2.aJ (cR.of_le l3 _)) f2 (y_ l2 l3) rfl rfl (by simp) rfl rfl (by simp;omega) (by simp;omega) ?_;intro v4 h4 B4 w1 w2 w3 w4 w5;have ff:=w2.form;refine ff.elim λp5 ff=>ff.elim λc5 hf=>?_;have hv4:=hf.1;have Uv:(aS++[[Value.bool false,.slice (some ⟨b1,0,none⟩) 0 0,.slice (some ⟨b2,0,none⟩) 0 0]]).length=k+1:=by simp[n2]
  rw[Uv]at hv4;subst hv4;conv=>whnf
  refine ah ?_;conv=>whnf
  refine dm (k+1,h4,p5,c5,aS++[[.bool false,.slice (some ⟨b1,0,none⟩) 0 0,.slice (some ⟨b2,0,none⟩) 0 0]],B4) ⟨by simp only;omega,w1,w2,Uv,λr hr=>?_,w3⟩ (by simp only;omega) rfl;rcases u_.1 hr with hr|hr
  ·exact r2 r hr
  ·rw[V_.1 hr];exact⟨_,_,_,_,rfl⟩
 ·have hke:k=m.code.length:=by omega
  subst hke;obtain⟨b,rfl,a2⟩:=BA o2 n2 lI.1 r2 f2 l2;obtain⟨o,nH⟩:=a2.in;have J0:(List.replicate m.code.length mh).length=m.code.length:=by simp
  refine lU nH (zI (bh h2 b) a2.hle) (λv h3 l3 hr=>?_);have a3:=a2.aJ l3;refine hr.elim λq1 hr=>hr.elim λe1 hr=>hr.elim λq2 hr=>hr.elim λe2 hr=>?_;have hv:=hr.1;subst hv;have Q6:=hr.2;refine(a3.at (i:=0) (by omega)).elim λ_ hp=>hp.elim λ_ hp=>hp.elim λ_ hp=>hp.elim λ_ hp=>?_;have put:=hp.2.2.2;conv=>whnf
  repeat' ((first|refine aq ?_|refine ah ?_|refine ptr ?_)<;>conv=>whnf)
  refine put _ (jt m) _ (Aw.of Q6) (λh4 yg a4=>?_);have v4:rV u.J.length m.locals ((List.replicate m.code.length mh).set 0 (jt m)):=vN (λs hs ht=>by rw[List.eq_of_mem_replicate hs]at ht;cases ht) 0 (λ_=>rR hM.head zi);have n4:((List.replicate m.code.length mh).set 0 (jt m)).length=m.code.length:=by simp
  generalize (List.replicate m.code.length mh).set 0 (jt m)=A4 at a4 v4 n4;clear put hp Q6 a3 a2;conv=>whnf
  refine fh [2,3,5,7] [2,3] (λy:Heap × List dY × Bool=>jf h y.1 b ca y.2.1/\rV u.J.length m.locals y.2.1/\y.2.1.length=m.code.length) (λy=>2*mu y.2.1+y.2.2.toNat)
   (λy=>([.l 2 0,.l 3 0,.v (.slice (some ⟨b,0,none⟩) m.code.length ca),.v (.bool y.2.2)],
    [some [.slice p u.J.length cc,.slice q u.methods.length d],some [.int .i64 m.cls,.int .i64 m.fG,.slice p1 m.args.length c1,.int .i64 m.out,.int .i64 m.locals,.slice p2 m.code.length c2,.slice p3 m.aQ.length c3,.slice p4 m.catches.length c4]],y.1))
   (h4,A4,true) ⟨a4,v4,n4⟩ rfl ?_
  rintro⟨h5,A5,ch5⟩ ⟨a5,v5,n5⟩;simp only at a5 v5 n5 ⊢;cases ch5
  ·conv=>whnf
   refine fh [3,5,9] [3] (λy:Nat × Heap × List dY=>y.1<=m.code.length/\jf h y.2.1 b ca y.2.2/\rV u.J.length m.locals y.2.2/\y.2.2.length=m.code.length) (λy=>m.code.length-y.1)
    (λy=>([.l 3 0,.v (.slice (some ⟨b,0,none⟩) m.code.length ca),.v (.int .i64 y.1)],
     [some [.int .i64 m.cls,.int .i64 m.fG,.slice p1 m.args.length c1,.int .i64 m.out,.int .i64 m.locals,.slice p2 m.code.length c2,.slice p3 m.aQ.length c3,.slice p4 m.catches.length c4]],y.2.1))
    (0,h5,A5) ⟨by omega,a5,v5,n5⟩ rfl ?_
   rintro⟨i,h6,A6⟩ ⟨hi,a6,v6,n6⟩;simp only at hi a6 v6 n6 ⊢;conv=>whnf
   apply ax<;>intro g2;all_goals conv=>whnf
   ·have hw:=aag i h6 a6.le ⟨by omega,g2⟩;generalize jE m i=w at hw;refine aj hw ?_;cases w
    ·conv=>whnf
     refine aC (kM h6) (λv h7 hh=>?_);have l7:=hh.1;refine hh.2.elim λb1 hh=>hh.elim λb2 hv=>?_;subst hv;have a7:=a6.aJ l7;refine(a7.at (i:=i) (by omega)).elim λ_ hp=>hp.elim λ_ hp=>hp.elim λ_ hp=>hp.elim λ_ hp=>?_;have put:=hp.2.2.2;conv=>whnf
     repeat' ((first|refine aq ?_|refine ah ?_|refine ptr ?_)<;>conv=>whnf)
     refine put _ mh _ (Bz.To ⟨_,_,_,_,rfl⟩ _) (λh8 hh8 a8=>?_);conv=>whnf
     refine ah ?_;conv=>whnf
     exact dm (i+1,h8,A6.set i mh) ⟨by simp only;omega,a8,vN v6 i (λhx=>by cases hx),by simpa using n6⟩ (by simp only;omega) rfl
    ·conv=>whnf
     refine ah ?_;conv=>whnf
     exact dm (i+1,h6,A6) ⟨by simp only;omega,a6,v6,n6⟩ (by simp only;omega) rfl
   ·exact⟨a6.le,b,ca,A6,by rw[n6],a6,n6,v6⟩
  ·conv=>whnf
   refine fh [2,3,5,7,8] [2,3] (λy:Nat × Heap × List dY × Bool=>y.1<=m.code.length/\Grown h h5 b ca u.J.length m.locals A5 y.2.1 y.2.2.1 y.2.2.2) (λy=>m.code.length-y.1)
    (λy=>([.l 2 0,.l 3 0,.v (.slice (some ⟨b,0,none⟩) m.code.length ca),.v (.bool y.2.2.2),.v (.int .i64 y.1)],
     [some [.slice p u.J.length cc,.slice q u.methods.length d],some [.int .i64 m.cls,.int .i64 m.fG,.slice p1 m.args.length c1,.int .i64 m.out,.int .i64 m.locals,.slice p2 m.code.length c2,.slice p3 m.aQ.length c3,.slice p4 m.catches.length c4]],y.2.1))
    (0,h5,A5,false) ⟨by omega,Grown.start a5 v5⟩ rfl ?_
   rintro⟨i,h6,A6,ch6⟩ ⟨hi,g6⟩;simp only at hi g6 ⊢;have n6:=g6.len;conv=>whnf
   apply ax<;>intro g2;all_goals conv=>whnf
   ·have Dj:=Po h6 b ca A6 i g6.all g6.val (by omega) ⟨by omega,by omega⟩;rw[show A6.length=m.code.length by omega]at Dj;refine aC Dj (λv h7 hh=>?_);refine hh.elim λch7 hh=>hh.elim λA7 hh=>?_;have hv:=hh.1;subst hv;have g7:=g6.trans hh.2;cases ch7
    ·conv=>whnf
     refine ah ?_;conv=>whnf
     exact dm (i+1,h7,A7,ch6) ⟨by simp only;omega,by simpa using g7⟩ (by simp only;omega) rfl
    ·conv=>whnf
     refine ah ?_;conv=>whnf
     exact dm (i+1,h7,A7,true) ⟨by simp only;omega,by simpa using g7⟩ (by simp only;omega) rfl
   ·refine dm (h6,A6,ch6) ⟨g6.all,g6.val,by simp only;omega⟩ ?_ rfl;have QN:=g6.mu;have LV:=g6.less;cases ch6
    ·show 2*mu A6+0 < 2*mu A5+1;omega
    ·have:=LV rfl;show 2*mu A6+1 < 2*mu A5+1;omega
def fo (m:cL) (i:Int):dY:=m.aQ.getD i.toNat mh
def jR (u:aO) (m:cL) (i:Int) (s:dY):Bool:=(fo m i).told&&Dn u.J s (fo m i)
def qx (u:aO) (m:cL) (i:Int) (s nx:dY):Bool:=(!eA (eZ m i)||jR u m (eZ m i).a nx)&&m.catches.all (λc=>!decide (c.lo<=i/\i<=c.hi-1)||jR u m c.to (fu c.cls s))
structure Uy (u:aO) (m:cL):Prop where
 mi:Td u m
 num:m.aQ.length=m.code.length
 val:rV u.J.length m.locals m.aQ
theorem all_none {α:Type} {l:List α} {p:α->Bool} {i:Nat} (hi:i < l.length) (h:p l[i]=false):l.all p=false:=by
 rw[List.all_eq_false];exact⟨_,x_ hi,by rw[h];simp⟩
theorem Mu {α:Type} {l:List α} {p:α->Bool} (h:∀ j (hj:j < l.length),p l[j]=true):l.all p=true:=by
 rw[List.all_eq_true];intro x hx;obtain⟨j,hj,rfl⟩:=List.mem_iff_getElem.1 hx;exact h j hj
theorem Mv {h:Heap} {p:Option Addr} {n c:Nat} {l:List dY} (hr:Row 3 mV h (.slice p n c) l) {i:Nat} (hi:i < l.length):∃ b o p1 c1 p2 c2,p=some ⟨b,o,none⟩/\fj h b (o+i*3) 3=some [.bool l[i].told,.slice p1 l[i].locals.length c1,.slice p2 l[i].stack.length c2]/\rd h b (o+i*3)=some (.bool l[i].told)/\tq h l[i] p1 p2 c1 c2:=by
 obtain⟨b,o,vs,hq,e1,a,k,e2,e3,e4⟩:=hr.get hi;have f1:=e3.len;obtain⟨p1,c1,rfl,_,_⟩:=f1;have f2:=e4.len;obtain⟨p2,c2,rfl,_,_⟩:=f2;subst e2;exact⟨b,o,p1,c1,p2,c2,hq,e1,by simpa using aE e1 (i:=0) rfl,e3,e4⟩
theorem Js (us ms:List Value) (u:aO) (m:cL) (at_:Int) (s:dY) (v:Value) (h:Heap) (hu:dG h us u) (hm:eM h ms m) (ok:cI u.J) (hM:Uy u m) (nR:0<=at_/\at_ < m.code.length) (hs:rP u.J.length m.locals s) (hr:Aw h v s) :
  Pure prog 183 [.agg ⟨us⟩,.agg ⟨ms⟩,.int .i64 at_,v] h (.bool (jR u m at_ s)):=by
 obtain⟨p,cc,q,d,rfl,hcs,fM,ji,hl2⟩:=hu.form;obtain⟨p1,c1,p2,c2,p3,c3,p4,c4,rfl,k1,k2,k3,k4,k5,k6,k7,k8,d1,d2,d3,d4⟩:=hm.form;obtain⟨q1,e1,q2,e2,rfl,hI⟩:=hr;have Tq:=hM.num;have hi:at_.toNat < m.aQ.length:=by omega
 obtain⟨b,o,lp,lc,kp,kc,hq,f1,f2,hJ⟩:=Mv k7 hi;have mT:fo m at_=m.aQ[at_.toNat]:=kW hi;have hV:=hM.val _ (x_ hi);unfold jR;rw[mT];generalize m.aQ[at_.toNat]=r at f1 f2 hJ hV;have fW:=λht:r.told=true=>CS p u.J.length cc u.J s r q1 q2 lp kp e1 e2 lc kc h hcs ok hI hJ (by have:=(hV ht).loc;have:=hs.loc;omega) (λt ht=>(hs.gj t ht).2) (λt ht=>(hs.cP t ht).2) (λt h2=>((hV ht).gj t h2).2) (λt h2=>((hV ht).cP t h2).2);refine iC au func183 Xz XA rfl ?_;conv=>whnf
 generalize hrt:r.told=rt at f1 f2 fW ⊢;cases rt
 ·repeat' ((first|exact trivial|exact⟨rfl,rfl⟩|apply T_|refine aq ?_|refine aG hq ?_|refine ld f2 ?_)<;>conv=>whnf)
 ·have fW:=fW rfl;repeat' ((first|exact trivial|exact⟨rfl,rfl⟩|apply T_|refine aq ?_|refine aG hq ?_|refine ld f2 ?_|refine dJ f1 ?_|refine aK fW ?_)<;>conv=>whnf)
theorem GN (us ms:List Value) (u:aO) (m:cL) (at_:Int) (s nx:dY) (v w:Value) (h:Heap) (hu:dG h us u) (hm:eM h ms m) (ok:cI u.J) (hM:Uy u m) (nR:0<=at_/\at_ < m.code.length) (hs:rP u.J.length m.locals s) (hr:Aw h v s) (hn:rP u.J.length m.locals nx) (hw:Aw h w nx) :
  bI prog 154 [.agg ⟨us⟩,.agg ⟨ms⟩,.int .i64 at_,v,w] h λx h'=>h.le h'/\x=.bool (qx u m at_ s nx):=by
 have H9:=λi h1 (hl:h.le h1) nR x y hx hy=>Js us ms u m i x y h1 (hu.le hl) (hm.le hl) ok hM nR hx hy;obtain⟨p,cc,q,d,rfl,hcs,fM,ji,hl2⟩:=hu.form;obtain⟨p1,c1,p2,c2,p3,c3,p4,c4,rfl,k1,k2,k3,k4,k5,k6,k7,k8,d1,d2,d3,d4⟩:=hm.form;obtain⟨q1,e1,q2,e2,rfl,hI⟩:=hr;have qG:=hw;obtain⟨q3,e3,q4,e4,rfl,hJ⟩:=hw;have zi:=ok.2.1;have lI:=hM.mi.len;have Uw:=hM.mi.cat.1;have tQ:=hM.mi.head.2.2.2.2.1;have I8:=hs.loc;have EL:at_.toNat < m.code.length:=by omega
 obtain⟨bi,oi,vi,sR,f1,f2,f3⟩:=k6.get EL;have mT:eZ m at_=m.code[at_.toNat]:=kW EL;have rZ:=λhj=>(hM.mi.code _ (x_ EL)).jump hj;subst f2;have Mq:=λhh=>kO m.code[at_.toNat].kind m.code[at_.toNat].a m.code[at_.toNat].b hh;have EO:qx u m at_ s nx=((!eA m.code[at_.toNat]||jR u m m.code[at_.toNat].a nx)&&m.catches.all (λc=>!decide (c.lo<=at_/\at_<=c.hi-1)||jR u m c.to (fu c.cls s))):=by unfold qx;rw[mT]
 change ∀ hh,Pure _ _ _ hh (.bool (eA m.code[at_.toNat]))at Mq
 generalize m.code[at_.toNat]=x at f1 rZ Mq EO;obtain⟨ik,ia,ib⟩:=x;simp only at f1 rZ EO Mq;have r1:=aE f1 (i:=1) rfl;generalize eA ⟨ik,ia,ib⟩=j at Mq rZ EO;generalize qx u m at_ s nx=res at EO;have fin:∀ {b:Bool} {h':Heap},h.le h'->res=b->h.le h'/\Value.bool b=.bool res:=λhl e=>⟨hl,by rw[e]⟩
 refine bZ au func154 WR WS rfl ?_;conv=>whnf
 have hjt:(j=true/\jR u m ia nx=false/\0<=ia/\ia < m.code.length)\/((!j||jR u m ia nx)=true/\(j=true->0<=ia/\ia < m.code.length)):=by
  cases j
  ·exact .inr ⟨rfl,rZ⟩
  ·cases ht:jR u m ia nx
   ·exact .inl ⟨rfl,rfl,rZ rfl⟩
   ·exact .inr ⟨rfl,rZ⟩
 have loop:True:=trivial;rcases hjt with ⟨rfl,ht,Qx⟩|⟨hjt,Qx⟩
 ·have h1:=H9 ia h (z_ h) Qx nx _ hn qG;rw[ht]at h1 EO;repeat' ((first|exact trivial|exact fin (z_ h) EO|apply T_|refine aq ?_|refine aG sR ?_|refine dJ f1 ?_|refine ld r1 ?_|refine aK (Mq _) ?_|refine aK h1 ?_)<;>conv=>whnf)
 ·rw[hjt,Bool.true_and]at EO;have h1:=λhj=>H9 ia h (z_ h) (Qx hj) nx _ hn qG;have ac4:j=true->jR u m ia nx=true:=λe=>by rw[e]at hjt;simpa using hjt
  cases j
  ·repeat' ((first|exact trivial|apply T_|refine aq ?_|refine aG sR ?_|refine dJ f1 ?_|refine ld r1 ?_|refine aK (Mq _) ?_)<;>conv=>whnf)
   all_goals
    refine fh [2,5,6,8,11] [5,6,8] (λy:Nat × Heap=>y.1<=m.catches.length/\h.le y.2/\∀ j (hj:j < m.catches.length),j < y.1->(!decide (m.catches[j].lo<=at_/\at_<=m.catches[j].hi-1)||jR u m m.catches[j].to (fu m.catches[j].cls s))=true) (λy=>m.catches.length-y.1)
     (λy=>([.v (.int .i64 at_),.l 5 0,.l 6 0,.l 8 0,.v (.int .i64 y.1)],
      [some [.slice p u.J.length cc,.slice q u.methods.length d],some [.int .i64 m.cls,.int .i64 m.fG,.slice p1 m.args.length c1,.int .i64 m.out,.int .i64 m.locals,.slice p2 m.code.length c2,.slice p3 m.aQ.length c3,.slice p4 m.catches.length c4],some [.bool s.told,.slice q1 s.locals.length e1,.slice q2 s.stack.length e2]],y.2))
     (0,h) ⟨by omega,z_ h,λ_ _ hx=>by simp only at hx;omega⟩ rfl ?_
    rintro⟨i,h5⟩ ⟨hi5,l5,g5⟩;simp only at hi5 l5 g5 ⊢;conv=>whnf
    apply ax<;>intro g2;all_goals conv=>whnf
    ·have bV:i < m.catches.length:=by omega
     obtain⟨bb,off,vs,Mo,w1,w2,w3⟩:=k8.get bV;subst w2;have Gv:=hM.mi.cat.2 _ (x_ bV);have here:(!decide (m.catches[i].lo<=at_/\at_<=m.catches[i].hi-1)||jR u m m.catches[i].to (fu m.catches[i].cls s))=false->res=false:=λe=>by rw[EO];exact all_none bV e
     have next:(!decide (m.catches[i].lo<=at_/\at_<=m.catches[i].hi-1)||jR u m m.catches[i].to (fu m.catches[i].cls s))=true->∀ j (hj:j < m.catches.length),j < i+1->(!decide (m.catches[j].lo<=at_/\at_<=m.catches[j].hi-1)||jR u m m.catches[j].to (fu m.catches[j].cls s))=true:=λe j hj jj=>by
      rcases Nat.lt_succ_iff_lt_or_eq.1 jj with iu|rfl
      ·exact g5 j hj iu
      ·exact e
     generalize m.catches[i]=ct at w1 w3 Gv here next;obtain⟨lo,xp,to,cls⟩:=ct;obtain⟨⟨ct1,ct2,Tk,Tl⟩,⟨ct5,ct6⟩,⟨Q4,Q5⟩,_⟩:=Gv;simp only at w1 ct1 ct2 Tk Tl ct5 ct6 Q4 Q5 here next;have EM:=jr l5 _ _ _ w1;repeat' ((first|refine aG Mo ?_|refine dJ EM ?_|refine aq ?_|refine ah ?_|refine ptr ?_)<;>conv=>whnf)
     have h6:=λhh=>dP at_ lo (xp-1) hh;have NA:=wY hs ⟨Q4,Q5⟩;have GL:=rT lo xp to cls s q1 q2 e1 e2 h5 (hI.le l5) (by omega) (by omega);generalize decide (lo<=at_/\at_<=xp-1)=bb6 at h6 here next;cases bb6
     ·repeat' ((first|exact trivial|apply T_|refine ah ?_|refine aK (h6 _) ?_)<;>conv=>whnf)
      all_goals exact dm (i+1,h5) ⟨by simp only;omega,l5,next rfl⟩ (by simp only;omega) rfl
     ·have lZ:=λh7 l7 y hy=>H9 to h7 (y_ l5 l7) ⟨Tk,Tl⟩ (fu cls s) y NA hy;generalize jR u m to (fu cls s)=tl at lZ here next;cases tl
      ·have ig:=here rfl;repeat' ((first|exact trivial|exact fin (y_ l5 CX.1) ig|apply T_|refine ah ?_|refine aK (h6 _) ?_|refine cX GL (λv h7 CX=>⟨CX.1,?_⟩)|refine aK (lZ _ CX.1 _ CX.2) ?_)<;>conv=>whnf)
      ·have next:=next rfl;repeat' ((first|exact trivial|apply T_|refine ah ?_|refine aK (h6 _) ?_|refine cX GL (λv h7 CX=>⟨CX.1,?_⟩)|refine aK (lZ _ CX.1 _ CX.2) ?_)<;>conv=>whnf)
       all_goals exact dm (i+1,h7) ⟨by simp only;omega,y_ l5 CX.1,next⟩ (by simp only;omega) rfl
    ·exact fin l5 (by rw[EO];exact Mu λj hj=>g5 j hj (by omega))
  ·have h1:=h1 rfl;rw[ac4 rfl]at h1;repeat' ((first|exact trivial|apply T_|refine aq ?_|refine aG sR ?_|refine dJ f1 ?_|refine ld r1 ?_|refine aK (Mq _) ?_|refine aK h1 ?_)<;>conv=>whnf)
   all_goals
    refine fh [2,5,6,8,11] [5,6,8] (λy:Nat × Heap=>y.1<=m.catches.length/\h.le y.2/\∀ j (hj:j < m.catches.length),j < y.1->(!decide (m.catches[j].lo<=at_/\at_<=m.catches[j].hi-1)||jR u m m.catches[j].to (fu m.catches[j].cls s))=true) (λy=>m.catches.length-y.1)
     (λy=>([.v (.int .i64 at_),.l 5 0,.l 6 0,.l 8 0,.v (.int .i64 y.1)],
      [some [.slice p u.J.length cc,.slice q u.methods.length d],some [.int .i64 m.cls,.int .i64 m.fG,.slice p1 m.args.length c1,.int .i64 m.out,.int .i64 m.locals,.slice p2 m.code.length c2,.slice p3 m.aQ.length c3,.slice p4 m.catches.length c4],some [.bool s.told,.slice q1 s.locals.length e1,.slice q2 s.stack.length e2]],y.2))
     (0,h) ⟨by omega,z_ h,λ_ _ hx=>by simp only at hx;omega⟩ rfl ?_
    rintro⟨i,h5⟩ ⟨hi5,l5,g5⟩;simp only at hi5 l5 g5 ⊢;conv=>whnf
    apply ax<;>intro g2;all_goals conv=>whnf
    ·have bV:i < m.catches.length:=by omega
     obtain⟨bb,off,vs,Mo,w1,w2,w3⟩:=k8.get bV;subst w2;have Gv:=hM.mi.cat.2 _ (x_ bV);have here:(!decide (m.catches[i].lo<=at_/\at_<=m.catches[i].hi-1)||jR u m m.catches[i].to (fu m.catches[i].cls s))=false->res=false:=λe=>by rw[EO];exact all_none bV e
     have next:(!decide (m.catches[i].lo<=at_/\at_<=m.catches[i].hi-1)||jR u m m.catches[i].to (fu m.catches[i].cls s))=true->∀ j (hj:j < m.catches.length),j < i+1->(!decide (m.catches[j].lo<=at_/\at_<=m.catches[j].hi-1)||jR u m m.catches[j].to (fu m.catches[j].cls s))=true:=λe j hj jj=>by
      rcases Nat.lt_succ_iff_lt_or_eq.1 jj with iu|rfl
      ·exact g5 j hj iu
      ·exact e
     generalize m.catches[i]=ct at w1 w3 Gv here next;obtain⟨lo,xp,to,cls⟩:=ct;obtain⟨⟨ct1,ct2,Tk,Tl⟩,⟨ct5,ct6⟩,⟨Q4,Q5⟩,_⟩:=Gv;simp only at w1 ct1 ct2 Tk Tl ct5 ct6 Q4 Q5 here next;have EM:=jr l5 _ _ _ w1;repeat' ((first|refine aG Mo ?_|refine dJ EM ?_|refine aq ?_|refine ah ?_|refine ptr ?_)<;>conv=>whnf)
     have h6:=λhh=>dP at_ lo (xp-1) hh;have NA:=wY hs ⟨Q4,Q5⟩;have GL:=rT lo xp to cls s q1 q2 e1 e2 h5 (hI.le l5) (by omega) (by omega);generalize decide (lo<=at_/\at_<=xp-1)=bb6 at h6 here next;cases bb6
     ·repeat' ((first|exact trivial|apply T_|refine ah ?_|refine aK (h6 _) ?_)<;>conv=>whnf)
      all_goals exact dm (i+1,h5) ⟨by simp only;omega,l5,next rfl⟩ (by simp only;omega) rfl
     ·have lZ:=λh7 l7 y hy=>H9 to h7 (y_ l5 l7) ⟨Tk,Tl⟩ (fu cls s) y NA hy;generalize jR u m to (fu cls s)=tl at lZ here next;cases tl
      ·have ig:=here rfl;repeat' ((first|exact trivial|exact fin (y_ l5 CX.1) ig|apply T_|refine ah ?_|refine aK (h6 _) ?_|refine cX GL (λv h7 CX=>⟨CX.1,?_⟩)|refine aK (lZ _ CX.1 _ CX.2) ?_)<;>conv=>whnf)
      ·have next:=next rfl;repeat' ((first|exact trivial|apply T_|refine ah ?_|refine aK (h6 _) ?_|refine cX GL (λv h7 CX=>⟨CX.1,?_⟩)|refine aK (lZ _ CX.1 _ CX.2) ?_)<;>conv=>whnf)
       all_goals exact dm (i+1,h7) ⟨by simp only;omega,y_ l5 CX.1,next⟩ (by simp only;omega) rfl
    ·exact fin l5 (by rw[EO];exact Mu λj hj=>g5 j hj (by omega))
theorem jf.app {h0 h:Heap} {b c n bytes:Nat} {A:List dY} {zero:List Value} {el:TypeId} {vs:List Value} {s:dY} {K:Value->Heap->Prop} (a:jf h0 h b c A) (hn:n=A.length) (jB:mV (bh h b) vs s) (hA:A.length<=1000) (hz:zero.length=3) (hb:bytes<=100)
  (hk:∀ b' c' h',jf h0 h' b' c' (A++[s])->(bh h b).le (bh h' b')->K (.slice (some ⟨b',0,none⟩) (A.length+1) c') h'):App bytes 3 zero el h (some ⟨b,0,none⟩) n c 1 vs K:=by
 subst hn;obtain⟨aS,ho,hn,hr⟩:=a.row;have Cz:vs.length=3:=by obtain⟨_,_,rfl,_⟩:=jB;rfl
 have GO:eu vs=true:=by
  obtain⟨l,k,rfl,h1,h2⟩:=jB;obtain⟨_,_,rfl,_⟩:=h1.len;obtain⟨_,_,rfl,_⟩:=h2.len;rfl
 have hm:(aS.length + [vs].length)*bytes<=1001*100:=Nat.mul_le_mul (by simp;omega) hb;refine dA (h0:=h0) (xs:=aS) (ys:=[vs]) (B:=[b]) ho (by simpa using a.fr) a.le (by simp) rfl (by simpa using Cz) GO hz (by omega) (by simp;omega) ?_;intro v' h' B' w1 w2 w3 w4 w5;have Pp:=w2;obtain⟨hx,⟨_,NH,_⟩|⟨b',c',rest,t,rfl,hc,uC,_,rfl⟩⟩:=w2
 ·simp at NH
 have hl2:(aS++[vs]).length=A.length+1:=by simp[hn]
 rw[hl2]at Pp ⊢;have hle:(bh h b).le (bh h' b'):=λx o hx=>by
  unfold bh at hx ⊢;split at hx
  ·cases hx
  rename_i So;have cH:x≠b':=by
   rintro rfl;rcases w5 x (by simp)with h1|h1
   ·exact So (by simpa using h1)
   ·rw[h1]at hx;cases hx
  rw[if_neg cH,w4 x (by simpa using So) (by rw[hx];simp)];exact hx
 refine hk b' c' h' ⟨w1,w3 b' (by simp),aS++[vs],by simpa using Pp,by simp[hn],λi h1 h2=>?_⟩ hle;by_cases hi:i < A.length
 ·rw[List.getElem_append_left (by omega),List.getElem_append_left hi];exact(hr i (by omega) hi).le hle
 ·have Cd:i=A.length:=by simp at h2;omega
  subst Cd;rw[List.getElem_append_right (by omega),List.getElem_append_right (by omega)];simp only[hn,Nat.sub_self,List.getElem_cons_zero];exact jB.le hle
def fy (u:aO) (m:cL):Nat->Int->dY->Bool->List dY->List dY × Bool
 | 0,_,_,comes,out=>(out,!comes)
 | k+1,i,s,comes,out =>
  if (fo m i).told=true/\comes=true/\Dn u.J s (fo m i)=false then (out,false)
  else if (fo m i).told=false/\comes=false then (out,false)
  else match stepT u m (eZ m i) (if (fo m i).told=true then fo m i else s)with
   | none=>(out++[if (fo m i).told=true then fo m i else s],false)
   | some nx=>if qx u m i (if (fo m i).told=true then fo m i else s) nx=true then fy u m k (i+1) nx (!kn (eZ m i)) (out++[if (fo m i).told=true then fo m i else s])else (out++[if (fo m i).told=true then fo m i else s],false)
def ey (u:aO) (m:cL):List dY × Bool:=fy u m m.code.length 0 (jt m) true []
def NW (u:aO) (m:cL) (k:Nat) (i:Int) (s:dY) (out:List dY):List dY × Bool:=match stepT u m (eZ m i) s with
 | none=>(out++[s],false)
 | some nx=>if qx u m i s nx=true then fy u m k (i+1) nx (!kn (eZ m i)) (out++[s])else (out++[s],false)
theorem CY {u:aO} {m:cL} {k:Nat} {i:Int} {s:dY} {comes:Bool} {out:List dY} (ht:(fo m i).told=true):fy u m (k+1) i s comes out=if comes=true/\Dn u.J s (fo m i)=false then (out,false)else NW u m k i (fo m i) out:=by
 rw[fy];simp[ht,NW]
theorem EP {u:aO} {m:cL} {k:Nat} {i:Int} {s:dY} {comes:Bool} {out:List dY} (ht:(fo m i).told=false):fy u m (k+1) i s comes out=if comes=false then (out,false)else NW u m k i s out:=by
 rw[fy];simp[ht,NW]
theorem si (us ms:List Value) (u:aO) (m:cL) (h:Heap) (hu:dG h us u) (hm:eM h ms m) (hV:GI u) (hM:Uy u m) :
  bI prog 107 [.agg ⟨us⟩,.agg ⟨ms⟩] h
   λv h'=>h.le h'/\∃ sl,v=.tuple #[sl,.bool (ey u m).2]/\Row 3 mV h' sl (ey u m).1:=by
 have iw:=hu;have JU:=hm;have ok:=hV.1;have zi:=ok.2.1;have tQ:=hM.mi.head.2.2.2.2.1;have lI:=hM.mi.len;have Tq:=hM.num;have fK:=hM.mi.head.2.2.1;have zI:=λhh (hl:h.le hh)=>uz us ms m u.J.length hh (hm.le hl) hM.mi.head zi;have GP:=λat_ s nx v w hh (hl:h.le hh) nR hs hr hn hw=>GN us ms u m at_ s nx v w hh (hu.le hl) (hm.le hl) ok hM nR hs hr hn hw;have gM:=λat_ s a b c d hh (hl:h.le hh) hI hs nR hx=>wX us ms u m at_ s a b c d hh (hu.le hl) (hm.le hl) hV hI hs tQ nR hx fK;obtain⟨p,cc,q,d,rfl,hcs,fM,ji,hl2⟩:=hu.form;obtain⟨p1,c1,p2,c2,p3,c3,p4,c4,rfl,k1,k2,k3,k4,k5,k6,k7,k8,d1,d2,d3,d4⟩:=hm.form;have fin:∀(H:Heap) (b c n:Nat) (Mw:List dY) (okb:Bool),jf h H b c Mw->n=Mw.length->Mw.length<=1000->ey u m=(Mw,okb)->h.le H/\∃ sl,Value.tuple #[.slice (some ⟨b,0,none⟩) n c,.bool okb]=.tuple #[sl,.bool (ey u m).2]/\Row 3 mV H sl (ey u m).1:=λH b c n Mw okb a hn hl e=>by
  subst hn;rw[e];exact⟨a.le,_,rfl,a.zD hl⟩
 refine bZ au func107 Vy Vz rfl ?_;conv=>whnf
 refine ec [] rfl (λb0 h1 tZ e0 l1 g0=>?_);conv=>whnf
 have o0:cr 3 h1 (.slice (some ⟨b0,0,none⟩) 0 0) [] [b0]:=⟨by simp,.inr ⟨b0,0,[],_,rfl,by simp,by simpa using g0,by simp,rfl⟩⟩
 have a0:jf h h1 b0 0 []:=⟨l1,tZ,[],o0,rfl,λi hi _=>by simp at hi⟩
 obtain⟨o1,nH⟩:=a0.in;refine lU nH (zI _ a0.hle) (λv h2 l2 hr=>?_);have a2:=a0.aJ l2;refine hr.elim λq1 hr=>hr.elim λe1 hr=>hr.elim λq2 hr=>hr.elim λe2 hr=>?_;have hv:=hr.1;subst hv;have hI2:=hr.2;conv=>whnf
 refine fh [2,3,6,7,8,9] [2,3,7] (λy:Nat × Heap × (Nat × Nat × List dY) × (dY × Option Addr × Nat × Option Addr × Nat) × Bool=>y.1<=m.code.length/\jf h y.2.1 y.2.2.1.1 y.2.2.1.2.1 y.2.2.1.2.2/\y.2.2.1.2.2.length=y.1/\tq (bh y.2.1 y.2.2.1.1) y.2.2.2.1.1 y.2.2.2.1.2.1 y.2.2.2.1.2.2.2.1 y.2.2.2.1.2.2.1 y.2.2.2.1.2.2.2.2/\rP u.J.length m.locals y.2.2.2.1.1/\ey u m=fy u m (m.code.length-y.1) y.1 y.2.2.2.1.1 y.2.2.2.2 y.2.2.1.2.2) (λy=>m.code.length-y.1)
  (λy=>([.l 2 0,.l 3 0,.v (.slice (some ⟨y.2.2.1.1,0,none⟩) y.1 y.2.2.1.2.1),.l 7 0,.v (.bool y.2.2.2.2),.v (.int .i64 y.1)],
   [some [.slice p u.J.length cc,.slice q u.methods.length d],some [.int .i64 m.cls,.int .i64 m.fG,.slice p1 m.args.length c1,.int .i64 m.out,.int .i64 m.locals,.slice p2 m.code.length c2,.slice p3 m.aQ.length c3,.slice p4 m.catches.length c4],some [.bool y.2.2.2.1.1.told,.slice y.2.2.2.1.2.1 y.2.2.2.1.1.locals.length y.2.2.2.1.2.2.1,.slice y.2.2.2.1.2.2.2.1 y.2.2.2.1.1.stack.length y.2.2.2.1.2.2.2.2]],y.2.1))
  (0,h2,(b0,0,[]),(jt m,q1,e1,q2,e2),true) ⟨by omega,a2,rfl,hI2,rR hM.mi.head zi,rfl⟩ rfl ?_
 rintro⟨i,h3,⟨b,c,out⟩,⟨s,q3,e3,q4,e4⟩,comes⟩ ⟨hi,a3,n3,Q6,hs,heq⟩;simp only at hi a3 n3 Q6 hs heq ⊢;subst n3;conv=>whnf
 apply ax<;>intro g;all_goals conv=>whnf
 ·have EL:out.length < m.code.length:=by omega
  have Uc:out.length < m.aQ.length:=by omega
  obtain⟨bs,os,lp,lc,kp,kc,Qe,f1,f2,hJ⟩:=Mv k7 Uc;have hsh:fo m (out.length:Int)=m.aQ[out.length]:=kW (by simpa using Uc);have Q7:=hM.val _ (x_ Uc);have Pm:=jr a3.le _ _ _ f1;have f2':=aX a3.le f2;have hJ3:=hJ.le a3.hle;have HF:m.code.length-out.length=(m.code.length-(out.length+1))+1:=by omega
  rw[HF]at heq;have vO:=λht=>CY (u:=u) (m:=m) (k:=m.code.length-(out.length+1)) (i:=out.length) (s:=s) (comes:=comes) (out:=out) ht;have GQ:=λht=>EP (u:=u) (m:=m) (k:=m.code.length-(out.length+1)) (i:=out.length) (s:=s) (comes:=comes) (out:=out) ht;rw[<-heq,hsh]at vO GQ;generalize m.aQ[out.length]=r at Pm f2' hJ3 Q7 vO GQ;obtain⟨o3,aah⟩:=a3.in;have fW:=λht:r.told=true=>CS p u.J.length cc u.J s r q3 q4 lp kp e3 e4 lc kc h3 (hcs.le a3.le (λ_ _ hx=>hx.le a3.le)) ok (Q6.le (iq h3 b)) (hJ3.le (iq h3 b)) (by have:=(Q7 ht).loc;have:=hs.loc;omega) (λt ht=>(hs.gj t ht).2) (λt ht=>(hs.cP t ht).2) (λt h2=>((Q7 ht).gj t h2).2) (λt h2=>((Q7 ht).cP t h2).2);have rQ:=λht:r.told=true=>zG r lp kp lc kc (bh h3 b) hJ3 (by have:=(Q7 ht).loc;omega) (by have:=(Q7 ht).len;omega);repeat' ((first|refine aG Qe ?_|refine ld f2' ?_|refine aq ?_|refine ah ?_|refine ptr ?_)<;>conv=>whnf)
  generalize hrt:r.told=rt at Pm f2' fW vO GQ rQ Q7 ⊢;cases rt
  ·have GQ:=GQ rfl;cases comes
   ·conv=>whnf
    exact fin h3 b c _ out false a3 rfl (by omega) GQ
   ·have nY:ey u m=NW u m (m.code.length-(out.length+1)) out.length s out:=GQ;have aH:=a3;have My:=Q6;have NX:=hs;conv=>whnf
    have hx:=hM.mi.code _ (x_ EL);have nR:0<=(out.length:Int)/\(out.length:Int) < m.code.length:=⟨by omega,g⟩
    have mT:eZ m (out.length:Int)=m.code[out.length]:=kW (by simpa using EL);refine(jf.app aH rfl (Aw.of My) (by omega) rfl (Nat.le_of_ble_eq_true rfl) (λb5 c5 h5 a5 l5=>?_));have Ae:eU u m (m.code.getD (out.length:Int).toNat ep):=by show eU u m (eZ m (out.length:Int));rw[mT];exact hx
    have eB:=gM out.length s q3 q4 e3 e4 (bh h5 b5) a5.hle (My.le l5) NX nR Ae;have Mp:eT u.J.length m.locals s (stepT u m (eZ m (out.length:Int)) s):=sQ hV NX (by rw[mT];exact hx);obtain⟨o5,mz⟩:=a5.in;unfold NW at nY;change bI _ _ _ _ (λv h'=>(bh h5 b5).le h'/\vJ h' v (stepT u m (eZ m (out.length:Int)) s))at eB
    generalize stepT u m (eZ m (out.length:Int)) s=res at eB Mp nY;conv=>whnf
    refine lU mz eB (λv h6 l6 hr=>?_);have a6:=a5.aJ l6;cases res with
    | none =>
     refine hr.elim λw1 hr=>hr.elim λw2 hr=>hr.elim λw3 hr=>hr.elim λw4 hr=>hr.elim λw5 hr=>hr.elim λw6 hr=>hr.elim λw7 hv=>?_;subst hv;conv=>whnf
     exact fin h6 b5 c5 _ (out++[s]) false a6 (by simp) (by simp;omega) nY
    | some nx =>
     have Q8:=(Mp nx rfl).1;refine hr.elim λq7 hr=>hr.elim λe7 hr=>hr.elim λq8 hr=>hr.elim λe8 hr=>?_;have hv:=hr.1;subst hv;have NV:tq (bh h6 b5) nx q7 q8 e7 e8:=hr.2;have fV:=GP out.length s nx _ _ (bh h6 b5) a6.hle nR NX ⟨q3,e3,q4,e4,rfl,(My.le l5).le (cy b5 l6)⟩ Q8 ⟨q7,e7,q8,e8,rfl,NV⟩;simp only at nY;generalize qx u m (out.length:Int) s nx=pt at fV nY;obtain⟨o6,xX⟩:=a6.in;conv=>whnf
     refine lU xX fV (λv h7 l7 hv=>?_);subst hv;have a7:=a6.aJ l7;cases pt
     ·conv=>whnf
      exact fin h7 b5 c5 _ (out++[s]) false a7 (by simp) (by simp;omega) nY
     ·rw[if_pos rfl]at nY;obtain⟨bi,oi,vi,sR,w1,w2,w3⟩:=k6.get EL;subst w2;have EM:=jr a7.le _ _ _ w1;have Mz:=o7 m.code[out.length].kind m.code[out.length].a m.code[out.length].b h7;change Pure _ _ _ _ (.bool (kn m.code[out.length]))at Mz
      rw[mT]at nY;generalize kn m.code[out.length]=en at Mz nY;conv=>whnf
      repeat' ((first|refine aG sR ?_|refine dJ EM ?_|refine aj Mz ?_|refine aq ?_|refine ah ?_|refine ptr ?_)<;>conv=>whnf)
      exact dm (out.length+1,h7,(b5,c5,out++[s]),(nx,q7,e7,q8,e8),!en) ⟨by simp only;omega,a7,by simp,NV.le (cy b5 l7),Q8,nY⟩ (by simp only;omega) rfl
  ·have vO:=vO rfl;have NX:=Q7 rfl;have fW:=fW rfl;have rQ:=rQ rfl;cases comes
   ·have nY:ey u m=NW u m (m.code.length-(out.length+1)) out.length r out:=vO;conv=>whnf
    repeat' ((first|exact trivial|apply T_|refine aq ?_|refine aG Qe ?_|refine dJ Pm ?_)<;>conv=>whnf)
    all_goals
     refine lU aah rQ (λv h4 l4 hr=>?_);have aH:=a3.aJ l4;refine hr.elim λx1 hr=>hr.elim λy1 hr=>hr.elim λx2 hr=>hr.elim λy2 hr=>?_;have hv:=hr.1;subst hv;have My:tq (bh h4 b) r x1 x2 y1 y2:=hr.2;conv=>whnf
     have hx:=hM.mi.code _ (x_ EL);have nR:0<=(out.length:Int)/\(out.length:Int) < m.code.length:=⟨by omega,g⟩
     have mT:eZ m (out.length:Int)=m.code[out.length]:=kW (by simpa using EL);refine(jf.app aH rfl (Aw.of My) (by omega) rfl (Nat.le_of_ble_eq_true rfl) (λb5 c5 h5 a5 l5=>?_));have Ae:eU u m (m.code.getD (out.length:Int).toNat ep):=by show eU u m (eZ m (out.length:Int));rw[mT];exact hx
     have eB:=gM out.length r x1 x2 y1 y2 (bh h5 b5) a5.hle (My.le l5) NX nR Ae;have Mp:eT u.J.length m.locals r (stepT u m (eZ m (out.length:Int)) r):=sQ hV NX (by rw[mT];exact hx);obtain⟨o5,mz⟩:=a5.in;unfold NW at nY;change bI _ _ _ _ (λv h'=>(bh h5 b5).le h'/\vJ h' v (stepT u m (eZ m (out.length:Int)) r))at eB
     generalize stepT u m (eZ m (out.length:Int)) r=res at eB Mp nY;conv=>whnf
     refine lU mz eB (λv h6 l6 hr=>?_);have a6:=a5.aJ l6;cases res with
     | none =>
      refine hr.elim λw1 hr=>hr.elim λw2 hr=>hr.elim λw3 hr=>hr.elim λw4 hr=>hr.elim λw5 hr=>hr.elim λw6 hr=>hr.elim λw7 hv=>?_;subst hv;conv=>whnf
      exact fin h6 b5 c5 _ (out++[r]) false a6 (by simp) (by simp;omega) nY
     | some nx =>
      have Q8:=(Mp nx rfl).1;refine hr.elim λq7 hr=>hr.elim λe7 hr=>hr.elim λq8 hr=>hr.elim λe8 hr=>?_;have hv:=hr.1;subst hv;have NV:tq (bh h6 b5) nx q7 q8 e7 e8:=hr.2;have fV:=GP out.length r nx _ _ (bh h6 b5) a6.hle nR NX ⟨x1,y1,x2,y2,rfl,(My.le l5).le (cy b5 l6)⟩ Q8 ⟨q7,e7,q8,e8,rfl,NV⟩;simp only at nY;generalize qx u m (out.length:Int) r nx=pt at fV nY;obtain⟨o6,xX⟩:=a6.in;conv=>whnf
      refine lU xX fV (λv h7 l7 hv=>?_);subst hv;have a7:=a6.aJ l7;cases pt
      ·conv=>whnf
       exact fin h7 b5 c5 _ (out++[r]) false a7 (by simp) (by simp;omega) nY
      ·rw[if_pos rfl]at nY;obtain⟨bi,oi,vi,sR,w1,w2,w3⟩:=k6.get EL;subst w2;have EM:=jr a7.le _ _ _ w1;have Mz:=o7 m.code[out.length].kind m.code[out.length].a m.code[out.length].b h7;change Pure _ _ _ _ (.bool (kn m.code[out.length]))at Mz
       rw[mT]at nY;generalize kn m.code[out.length]=en at Mz nY;conv=>whnf
       repeat' ((first|refine aG sR ?_|refine dJ EM ?_|refine aj Mz ?_|refine aq ?_|refine ah ?_|refine ptr ?_)<;>conv=>whnf)
       exact dm (out.length+1,h7,(b5,c5,out++[r]),(nx,q7,e7,q8,e8),!en) ⟨by simp only;omega,a7,by simp,NV.le (cy b5 l7),Q8,nY⟩ (by simp only;omega) rfl
   ·generalize Dn u.J s r=inb at fW vO;cases inb
    ·conv=>whnf
     repeat' ((first|exact trivial|exact fin h3 b c _ out false a3 rfl (by omega) vO|apply T_|refine aq ?_|refine aG Qe ?_|refine dJ Pm ?_|refine aK fW ?_)<;>conv=>whnf)
    ·have nY:ey u m=NW u m (m.code.length-(out.length+1)) out.length r out:=vO;conv=>whnf
     repeat' ((first|exact trivial|apply T_|refine aq ?_|refine aG Qe ?_|refine dJ Pm ?_|refine aK fW ?_)<;>conv=>whnf)
     all_goals
      refine lU aah rQ (λv h4 l4 hr=>?_);have aH:=a3.aJ l4;refine hr.elim λx1 hr=>hr.elim λy1 hr=>hr.elim λx2 hr=>hr.elim λy2 hr=>?_;have hv:=hr.1;subst hv;have My:tq (bh h4 b) r x1 x2 y1 y2:=hr.2;conv=>whnf
      have hx:=hM.mi.code _ (x_ EL);have nR:0<=(out.length:Int)/\(out.length:Int) < m.code.length:=⟨by omega,g⟩
      have mT:eZ m (out.length:Int)=m.code[out.length]:=kW (by simpa using EL);refine(jf.app aH rfl (Aw.of My) (by omega) rfl (Nat.le_of_ble_eq_true rfl) (λb5 c5 h5 a5 l5=>?_));have Ae:eU u m (m.code.getD (out.length:Int).toNat ep):=by show eU u m (eZ m (out.length:Int));rw[mT];exact hx
      have eB:=gM out.length r x1 x2 y1 y2 (bh h5 b5) a5.hle (My.le l5) NX nR Ae;have Mp:eT u.J.length m.locals r (stepT u m (eZ m (out.length:Int)) r):=sQ hV NX (by rw[mT];exact hx);obtain⟨o5,mz⟩:=a5.in;unfold NW at nY;change bI _ _ _ _ (λv h'=>(bh h5 b5).le h'/\vJ h' v (stepT u m (eZ m (out.length:Int)) r))at eB
      generalize stepT u m (eZ m (out.length:Int)) r=res at eB Mp nY;conv=>whnf
      refine lU mz eB (λv h6 l6 hr=>?_);have a6:=a5.aJ l6;cases res with
      | none =>
       refine hr.elim λw1 hr=>hr.elim λw2 hr=>hr.elim λw3 hr=>hr.elim λw4 hr=>hr.elim λw5 hr=>hr.elim λw6 hr=>hr.elim λw7 hv=>?_;subst hv;conv=>whnf
       exact fin h6 b5 c5 _ (out++[r]) false a6 (by simp) (by simp;omega) nY
      | some nx =>
       have Q8:=(Mp nx rfl).1;refine hr.elim λq7 hr=>hr.elim λe7 hr=>hr.elim λq8 hr=>hr.elim λe8 hr=>?_;have hv:=hr.1;subst hv;have NV:tq (bh h6 b5) nx q7 q8 e7 e8:=hr.2;have fV:=GP out.length r nx _ _ (bh h6 b5) a6.hle nR NX ⟨x1,y1,x2,y2,rfl,(My.le l5).le (cy b5 l6)⟩ Q8 ⟨q7,e7,q8,e8,rfl,NV⟩;simp only at nY;generalize qx u m (out.length:Int) r nx=pt at fV nY;obtain⟨o6,xX⟩:=a6.in;conv=>whnf
       refine lU xX fV (λv h7 l7 hv=>?_);subst hv;have a7:=a6.aJ l7;cases pt
       ·conv=>whnf
        exact fin h7 b5 c5 _ (out++[r]) false a7 (by simp) (by simp;omega) nY
       ·rw[if_pos rfl]at nY;obtain⟨bi,oi,vi,sR,w1,w2,w3⟩:=k6.get EL;subst w2;have EM:=jr a7.le _ _ _ w1;have Mz:=o7 m.code[out.length].kind m.code[out.length].a m.code[out.length].b h7;change Pure _ _ _ _ (.bool (kn m.code[out.length]))at Mz
        rw[mT]at nY;generalize kn m.code[out.length]=en at Mz nY;conv=>whnf
        repeat' ((first|refine aG sR ?_|refine dJ EM ?_|refine aj Mz ?_|refine aq ?_|refine ah ?_|refine ptr ?_)<;>conv=>whnf)
        exact dm (out.length+1,h7,(b5,c5,out++[r]),(nx,q7,e7,q8,e8),!en) ⟨by simp only;omega,a7,by simp,NV.le (cy b5 l7),Q8,nY⟩ (by simp only;omega) rfl
 ·have he:out.length=m.code.length:=by omega
  rw[he,Nat.sub_self]at heq;exact fin h3 b c _ out _ a3 rfl (by omega) heq
def Bytes (h:Heap) (v:Value) (n:Nat):Prop:=∃ p c,v=.slice p n c/\n<=c/\(n=0\/∃ b off,p=some ⟨b,off,none⟩/\∀ i,i < n->∃ x:Int,rd h b (off+i)=some (.int .u8 x)/\0<=x/\x < 256)
theorem Heap.set_set (h:Heap) (b:Nat) (o o':Obj):(Heap.set h b o).set b o'=Heap.set h b o':=by
 funext c;simp only[Heap.set];split<;>rfl
theorem rd_some {h:Heap} {b off:Nat} {v:Value} (hr:rd h b off=some v):h b≠none:=by
 intro hn;simp[rd,hn]at hr
theorem Bytes.set {h:Heap} {v:Value} {n bb:Nat} (hB:Bytes h v n) (uC:h bb=none) (o:Obj):Bytes (h.set bb o) v n:=by
 obtain⟨p,c,rfl,hc,hB⟩:=hB;refine⟨p,c,rfl,hc,hB.imp id ?_⟩;rintro⟨b,off,rfl,hx⟩;refine⟨b,off,rfl,λi hi=>?_⟩;obtain⟨x,h1,h2⟩:=hx i hi;have cH:b≠bb:=by rintro rfl;exact rd_some h1 uC
 exact⟨x,by rw[nO cH];exact h1,h2⟩
def dz (h:Heap) (bb:Nat) (vb:Value) (p:Int):Heap:=h.set bb (.cells #[vb,.int .i64 p] 83)
theorem Ia {a b:Int} (h:0<=a) (hb:0 < b):0<=a.tmod b/\a.tmod b < b:=by
 rw[Int.tmod_eq_emod_of_nonneg h];exact⟨Int.emod_nonneg _ (by omega),Int.emod_lt_of_pos _ hb⟩
theorem yj {a b:Int} (h:0<=a) (hb:0 < b):0<=a.tdiv b/\a.tdiv b<=a:=by
 rw[Int.tdiv_eq_ediv_of_nonneg h];exact⟨Int.ediv_nonneg h (by omega),Int.ediv_le_self _ h⟩
theorem GR {a b:Int} (ha:0<=a) (ha1:a < 9223372036854775808) (hb:0<=b) (gL:b < 9223372036854775808):0<=xl .xor .i64 a b:=by
 unfold xl;simp only;have h:(BitVec.ofInt IntKind.i64.bits a ^^^ BitVec.ofInt IntKind.i64.bits b).toNat < 2 ^ 63:=by
  rw[BitVec.toNat_xor];have e:∀ z:Int,0<=z->z < 9223372036854775808->(BitVec.ofInt IntKind.i64.bits z).toNat < 2 ^ 63:=by
   intro z h0 h1;rw[BitVec.toNat_ofInt];show(z % ((2 ^ 64:Nat):Int)).toNat < 2 ^ 63;rw[Int.emod_eq_of_lt h0 (by omega)];omega
  exact Nat.xor_lt_two_pow (e a ha ha1) (e b hb gL)
 rw[wrap_i64 (by omega) (by omega)];omega
theorem Tr (bb n:Nat) (vb:Value) (p k:Int) (h:Heap) (uC:h bb=none) (hB:Bytes h vb n) (hp:0<=p) (xK:p<=1000000000000) (hn:n<=1000000000000) :
  bI prog 24 [.pointer (some ⟨bb,0,none⟩),.int .i64 k] (dz h bb vb p) λv h'=>∃ x,v=.int .i64 x/\0<=x/\(1<=k->x < k)/\(k < 1->x=0)/\h'=dz h bb vb (p+1):=by
 refine bZ au func24 F24 aa7 rfl ?_;have hb:(dz h bb vb p) bb=some (.cells #[vb,.int .i64 p] 83):=by simp[dz,Heap.set]
 have hB':=hB.set uC (.cells #[vb,.int .i64 p] 83);change Bytes (dz h bb vb p) vb n at hB'
 have ko:∀ q,(dz h bb vb p).set bb (.cells #[vb,.int .i64 q] 83)=dz h bb vb q:=λq=>Heap.set_set _ _ _ _;have hR:=ko (p+1);clear ko hB uC;generalize dz h bb vb (p+1)=Ao at *;generalize dz h bb vb p=h at *;subst hR;have hB:=hB';clear hB';obtain⟨q,c,rfl,_,hB⟩:=hB;conv=>whnf
 refine ld (v:=.int .i64 p) (by simp[rd,hb]) ?_;conv=>whnf
 refine ah ?_;conv=>whnf
 refine st hb (by simp) ?_;conv=>whnf
 apply ax<;>intro h1;all_goals conv=>whnf
 ·exact⟨0,rfl,by omega,by omega,by omega,rfl⟩
 refine ld (v:=.slice q n c) (by simp[rd,Heap.set,eS,Nt]) ?_;conv=>whnf
 apply ax<;>intro h2;all_goals conv=>whnf
 ·exact⟨0,rfl,by omega,by omega,by omega,rfl⟩
 have ur:rd (h.set bb (.cells (eS #[Value.slice q n c,.int .i64 p].toList (0+1) [.int .i64 (p+1)]).toArray 83)) bb (0+1)=some (.int .i64 (p+1)):=by simp[rd,Heap.set,eS,Nt]
 have ig:rd (h.set bb (.cells (eS #[Value.slice q n c,.int .i64 p].toList (0+1) [.int .i64 (p+1)]).toArray 83)) bb 0=some (.slice q n c):=by simp[rd,Heap.set,eS,Nt]
 rcases hB with hB|⟨b,off,rfl,hB⟩
 ·exact absurd (by omega) h2
 have hby:∀ i,i < n->∃ x:Int,rd (h.set bb (.cells (eS #[Value.slice (some ⟨b,off,none⟩) n c,.int .i64 p].toList (0+1) [.int .i64 (p+1)]).toArray 83)) b (off+i)=some (.int .u8 x)/\0<=x/\x < 256:=by
  intro i hi;obtain⟨x,h3,h4⟩:=hB i hi;have cH:b≠bb:=by
   intro he;subst he;simp only[rd,hb]at h3;match he:off+i,h3 with
   | 0,h3=>simp at h3
   | 1,h3=>simp at h3
   | m+2,h3=>simp at h3
  exact⟨x,by rw[nO cH];exact h3,h4⟩
 have Cs:∀ i:Int,0<=i->i < n->∃ x:Int,rd (h.set bb (.cells (eS #[Value.slice (some ⟨b,off,none⟩) n c,.int .i64 p].toList (0+1) [.int .i64 (p+1)]).toArray 83)) b (off+i.toNat*1)=some (.int .u8 x)/\0<=x/\x < 256:=by
  intro i h4 h5;rw[Nat.mul_one];exact hby i.toNat (by omega)
 have fL:h.set bb (.cells (eS #[Value.slice (some ⟨b,off,none⟩) n c,.int .i64 p].toList (0+1) [.int .i64 (p+1)]).toArray 83)=h.set bb (.cells #[.slice (some ⟨b,off,none⟩) n c,.int .i64 (p+1)] 83):=rfl;refine ld ur ?_;conv=>whnf
 refine ah ?_;conv=>whnf
 refine ld ig ?_;conv=>whnf
 apply ax<;>intro h3;all_goals conv=>whnf
 ·refine ld ig ?_;conv=>whnf
  refine aq ?_;conv=>whnf
  obtain⟨x,hx,tD,Hs⟩:=Cs (p+1-1) (by omega) (by omega);refine ptr ?_;conv=>whnf
  refine ld hx ?_;conv=>whnf
  refine ah ?_;conv=>whnf
  refine aq ?_;conv=>whnf
  have ht:x.tmod k=x % k:=Int.tmod_eq_emod_of_nonneg tD;exact⟨x.tmod k,rfl,by rw[ht];exact Int.emod_nonneg _ (by omega),λh=>by rw[ht];exact Int.emod_lt_of_pos _ (by omega),by omega,rfl⟩
 ·have t1:=Ia (a:=p+1-1) (b:=n) (by omega) (by omega);have t2:=Ia (a:=(p+1-1)*7+3) (b:=n) (by omega) (by omega);have t3:=yj (a:=p+1-1) (b:=n) (by omega) (by omega);obtain⟨x,hx,tD,Hs⟩:=Cs _ t1.1 t1.2;obtain⟨y,hy,De,hy1⟩:=Cs _ t2.1 t2.2;have t4:=yj (a:=x*131+y*1117+(p+1-1)*29+(p+1-1).tdiv n*53) (b:=64) (by omega) (by omega);repeat' ((first
   | refine ld ig ?_
   | refine ld ur ?_
   | refine ah ?_
   | refine aq ?_
   | refine ptr ?_
   | refine ld hx ?_
   | refine ld hy ?_)<;>conv=>whnf)
  have ht:∀ z:Int,0<=z->z.tmod k=z % k:=λz hz=>Int.tmod_eq_emod_of_nonneg hz;have hz:0<=xl .xor .i64 (x*131+y*1117+(p+1-1)*29+(p+1-1).tdiv n*53) ((x*131+y*1117+(p+1-1)*29+(p+1-1).tdiv n*53).tdiv 64):=by
   refine GR (by omega) (by omega) ?_ ?_
   ·exact(yj (by omega) (by omega)).1
   ·have:=(yj (a:=x*131+y*1117+(p+1-1)*29+(p+1-1).tdiv n*53) (b:=64) (by omega) (by omega)).2;omega
  exact⟨_,rfl,by rw[ht _ hz];exact Int.emod_nonneg _ (by omega),λh=>by rw[ht _ hz];exact Int.emod_lt_of_pos _ (by omega),by omega,rfl⟩
theorem sn (g:Heap) (bb:Nat) (vb:Value) (p:Int):∃ o,dz g bb vb p bb=some o:=⟨_,by unfold dz;exact dh _ _ _⟩
theorem iQ {g:Heap} {bb b:Nat} {vb:Value} {p:Int} (h:b≠bb):dz g bb vb p b=g b:=by unfold dz;simp[Heap.set,h]
theorem vP {g:Heap} {bb:Nat} {vb:Value} {p:Int} (hb:g bb=none):bh (dz g bb vb p) bb=g:=by
 funext x
 unfold bh;by_cases e:x=bb
 ·rw[if_pos e,e,hb]
 ·rw[if_neg e,iQ e]
theorem pq {h:Heap} {g:Heap} {bb:Nat} {vb:Value} {p:Int} (hb:h bb=dz g bb vb p bb):h=dz (bh h bb) bb vb p:=by
 funext x
 by_cases e:x=bb
 ·rw[e,hb];unfold dz;rw[dh,dh]
 ·rw[iQ e];unfold bh;rw[if_neg e]
theorem aY {g:Heap} {bb:Nat} {vb:Value} {p:Int} (hb:g bb=none):g.le (dz g bb vb p):=Heap.aP (z_ g) hb
theorem Bytes.le {h h':Heap} (hl:h.le h') {v:Value} {n:Nat} (hB:Bytes h v n):Bytes h' v n:=by
 obtain⟨p,c,rfl,hc,hB⟩:=hB;refine⟨p,c,rfl,hc,hB.imp id ?_⟩;rintro⟨b,off,rfl,hx⟩;refine⟨b,off,rfl,λi hi=>?_⟩;obtain⟨x,h1,h2⟩:=hx i hi;exact⟨x,aX hl h1,h2⟩
structure bC (g:Heap) (bb:Nat) (vb:Value) (p:Int):Prop where
 free:g bb=none
 bytes:∃ n,Bytes g vb n/\n<=2000
 lo:0<=p
theorem bC.to {g g':Heap} {bb:Nat} {vb:Value} {p q:Int} (r:bC g bb vb p) (hl:g.le g') (hb:g' bb=none) (hq:p<=q):bC g' bb vb q :=
 ⟨hb,by obtain⟨n,h1,h2⟩:=r.bytes;exact⟨n,h1.le hl,h2⟩,by have:=r.lo;omega⟩
theorem bC.on {g:Heap} {bb:Nat} {vb:Value} {p q:Int} (r:bC g bb vb p) (hq:p<=q):bC g bb vb q:=r.to (z_ g) r.free hq
def Dr (P:Program) (f:FuncId) (args:List Value) (g:Heap) (bb:Nat) (vb:Value) (p k:Int) (A:Heap->Value->Prop):Prop :=
 bI P f args (dz g bb vb p) λv h'=>∃ g' q,h'=dz g' bb vb q/\g.le g'/\g' bb=none/\p<=q/\q<=p+k/\A g' v
theorem gY {P:Program} {f:FuncId} {args:List Value} {g:Heap} {bb:Nat} {vb:Value} {p k:Int} {A:Heap->Value->Prop} {K:Value->Heap->Prop} {E:List PanicEntry->Heap->Prop} (r:bC g bb vb p) (hc:Dr P f args g bb vb p k A)
  (hk:∀ v g' q,g.le g'->bC g' bb vb q->p<=q->q<=p+k->A g' v->K v (dz g' bb vb q)):Go.Vc.Call P f args (dz g bb vb p) K E :=
 aC hc λv h' hh=>by
  obtain⟨g',q,rfl,hl,hb,h1,h2,hA⟩:=hh;exact hk v g' q hl (r.to hl hb h1) h1 h2 hA
theorem bF {g:Heap} {bb:Nat} {vb:Value} {p k:Int} {K:Value->Heap->Prop} {E:List PanicEntry->Heap->Prop} (r:bC g bb vb p) (hp:p<=1000000000)
  (hk:∀ x,0<=x->(1<=k->x < k)->(k < 1->x=0)->bC g bb vb (p+1)->K (.int .i64 x) (dz g bb vb (p+1))):Go.Vc.Call prog 24 [.pointer (some ⟨bb,0,none⟩),.int .i64 k] (dz g bb vb p) K E:=by
 obtain⟨n,hB,hn⟩:=r.bytes;refine aC (Tr bb n vb p k g r.free hB r.lo (by omega) (by omega)) ?_;rintro v h' ⟨x,rfl,x0,x1,x2,rfl⟩;exact hk x x0 x1 x2 (r.on (by omega))
theorem Pq {P:Program} {f:FuncId} {args:List Value} {g:Heap} {bb:Nat} {vb:Value} {p:Int} {R:Value->Heap->Prop} {K:Value->Heap->Prop} {E:List PanicEntry->Heap->Prop} (r:bC g bb vb p) (hc:bI P f args g λv g'=>g.le g'/\R v g')
  (hk:∀ v g',g.le g'->bC g' bb vb p->R v g'->K v (dz g' bb vb p)):Go.Vc.Call P f args (dz g bb vb p) K E:=by
 obtain⟨o,ho⟩:=sn g bb vb p;have pW:bI P f args (bh (dz g bb vb p) bb) λv g'=>g.le g'/\R v g':=by rw[vP r.free];exact hc
 refine aC (o9 ho pW) λv h' hh=>?_;rw[pq hh.1];exact hk v _ hh.2.1 (r.to hh.2.1 (by simp[bh]) (Int.le_refl _)) hh.2.2
theorem Ib {P:Program} {f:FuncId} {args:List Value} {g:Heap} {bb:Nat} {vb:Value} {p:Int} {R:Value->Heap->Prop} {K:Value->Heap->Prop} {E:List PanicEntry->Heap->Prop} (r:bC g bb vb p) (hc:bI P f args g λv g'=>g.le g'/\R v g')
  (hk:∀ v g',g.le g'->bC g' bb vb p->R v g'->K v (dz g' bb vb p)):Go.Vc.iF P f args (dz g bb vb p) K E:=by
 obtain⟨o,ho⟩:=sn g bb vb p;have pW:bI P f args (bh (dz g bb vb p) bb) λv g'=>g.le g'/\R v g':=by rw[vP r.free];exact hc
 refine cX (o9 ho pW) λv h' hh=>⟨?_,?_⟩
 ·refine CT (b:=bb) ?_ hh.1;rw[vP r.free];exact hh.2.1
 ·rw[pq hh.1];exact hk v _ hh.2.1 (r.to hh.2.1 (by simp[bh]) (Int.le_refl _)) hh.2.2
theorem Ts {P:Program} {f:FuncId} {args:List Value} {g:Heap} {bb:Nat} {vb:Value} {p:Int} {x:Value} {K:Value->Heap->Prop} {E:List PanicEntry->Heap->Prop} (r:bC g bb vb p) (hc:Pure P f args g x) (hk:K x (dz g bb vb p)):Go.Vc.Call P f args (dz g bb vb p) K E:=by
 obtain⟨o,ho⟩:=sn g bb vb p;have pW:bI P f args (bh (dz g bb vb p) bb) λv g'=>v=x/\g'=g:=by rw[vP r.free];exact hc
 refine aC (o9 ho pW) λv h' hh=>?_;rw[pq hh.1,hh.2.2,hh.2.1];exact hk
theorem lV {g:Heap} {bb:Nat} {vb:Value} {p:Int} {cs:List Value} {t:TypeId} {K:Nat->Heap->Prop} (jU:List Value) (r:bC g bb vb p) (hcs:cs=jU) (hk:∀ b g',g b=none->b≠bb->g.le g'->bC g' bb vb p->g' b=some (.cells jU.toArray t (0,0))->K b (dz g' bb vb p)):JQ (dz g bb vb p) cs t K:=by
 subst hcs;refine new λb hb=>?_;have cH:b≠bb:=by
  rintro rfl;obtain⟨o,ho⟩:=sn g b vb p;rw[ho]at hb;cases hb
 rw[iQ cH]at hb;have he:(dz g bb vb p).set b (.cells cs.toArray t)=dz (g.set b (.cells cs.toArray t)) bb vb p:=by
  funext x
  unfold dz;simp only[Heap.set];by_cases e1:x=b
  ·have:x≠bb:=by rw[e1];exact cH
   simp[e1,cH]
  ·simp[e1]
 rw[he];have hl:g.le (g.set b (.cells cs.toArray t)):=Heap.aP (z_ g) hb;exact hk b _ hb cH hl (r.to hl (by simp[Heap.set,λe=>cH (Eq.symm e),r.free];intro e;exact absurd e.symm cH) (Int.le_refl _)) (dh _ _ _)
theorem cr.dz {sz:Nat} {g:Heap} {bb:Nat} {vb:Value} {p:Int} {v:Value} {xs:List (List Value)} {B:List Nat} (hb:g bb=none) (ho:cr sz g v xs B):cr sz (Go.Proofs.dz g bb vb p) v xs B:=ho.aJ (cR.of_le (aY hb) _)
theorem cr.aai {sz:Nat} {h:Heap} {bb:Nat} {v:Value} {xs:List (List Value)} {B:List Nat} (hb:bb ∉ B) (ho:cr sz h v xs B):cr sz (bh h bb) v xs B:=ho.aJ λb hm o hx=>by
 have:b≠bb:=by rintro rfl;exact hb hm
 unfold bh;rw[if_neg this];exact hx
theorem oB {bytes sz:Nat} {zero:List Value} {el:TypeId} {g0 g:Heap} {bb:Nat} {vb:Value} {q:Int} {p:Option Addr} {n cap:Nat} {xs ys:List (List Value)} {B:List Nat} {m:Nat} {vs:List Value} {K:Value->Heap->Prop} {q0:Int}
  (r0:bC g0 bb vb q0) (r:bC g bb vb q) (ho:cr sz g (.slice p n cap) xs B) (hB:∀ b∈B,g0 b=none) (hle:g0.le g) (jB:vs=ys.flatten) (hm:m=ys.length) (JT:∀ y∈ys,y.length=sz) (hc:eu vs=true) (hz:zero.length=sz)
  (gL:(xs.length+ys.length)*bytes<=2 ^ 44) (fO:xs.length+ys.length<=2 ^ 44)
  (hk:∀ v' g' B',g0.le g'->bC g' bb vb q->cr sz g' v' (xs++ys) B'->(∀ b∈B',g0 b=none)->(∀ b,b ∉ B->g b≠none->g' b=g b)->(∀ b∈B',b∈B\/g b=none)->K v' (dz g' bb vb q)):App bytes sz zero el (dz g bb vb q) p n cap m vs K:=by
 have GS:bb ∉ B:=λhx=>by obtain⟨o,h1⟩:=ho.in bb hx;rw[r.free]at h1;cases h1
 have h0b:g0 bb=none:=by
  cases hx:g0 bb with
  | none=>rfl
  | some o=>have:=hle bb o hx;rw[r.free]at this;cases this
 refine dA (h0:=g0) (ho.dz r.free) hB (y_ hle (aY r.free)) jB hm JT hc hz gL fO ?_;intro v' h' B' k1 k2 k3 k4 k5;obtain⟨o,MA⟩:=sn g bb vb q;have uC:h' bb=dz g bb vb q bb:=k4 bb GS (by rw[MA];simp);have MB:bb ∉ B':=λhx=>by
  rcases k5 bb hx with h1|h1
  ·exact GS h1
  ·rw[MA]at h1;cases h1
 rw[pq uC];have hl:g0.le (bh h' bb):=vM k1 h0b;have other:∀ b,b ∉ B->g b≠none->bh h' bb b=g b:=λb hb hn=>by
  have cH:b≠bb:=by rintro rfl;exact hn r.free
  unfold bh;rw[if_neg cH,k4 b hb (by rw[iQ cH];exact hn),iQ cH]
 refine hk v' _ B' hl ⟨by simp[bh],by obtain⟨n,e1,e2⟩:=r0.bytes;exact⟨n,e1.le hl,e2⟩,r.lo⟩ (k2.aai MB) k3 other λb hb=>?_
 ·rcases k5 b hb with h1|h1
  ·exact .inl h1
  ·have cH:b≠bb:=by rintro rfl;rw[MA]at h1;cases h1
   rw[iQ cH]at h1;exact .inr h1
theorem BB {g:Heap} {bb:Nat} {vb:Value} {p:Int} (r:bC g bb vb p) (hp:p<=100000000) :
  Dr prog 103 [.pointer (some ⟨bb,0,none⟩)] g bb vb p 2 λg' v=>g'=g/\∃ x:Int,v=.int .i64 x/\-128<=x/\x<=127:=by
 refine bZ au func103 Vu Vv rfl ?_;conv=>whnf
 refine bF r (by omega) (λx x0 x1 x2 r1=>?_);conv=>whnf
 apply ax<;>intro h1;all_goals conv=>whnf
 ·refine bF r1 (by omega) (λy y0 y1 y2 r2=>?_);have hy:y=0\/y=1\/y=2\/y=3\/y=4\/y=5:=by omega
  rcases hy with rfl|rfl|rfl|rfl|rfl|rfl;all_goals
   conv=>whnf
   refine aq ?_;conv=>whnf
   exact⟨_,_,rfl,z_ g,r2.free,by omega,by omega,⟨rfl,_,rfl,by omega,by omega⟩⟩
 ·refine bF r1 (by omega) (λy y0 y1 y2 r2=>?_);conv=>whnf
  refine ah ?_;conv=>whnf
  exact⟨_,_,rfl,z_ g,r2.free,by omega,by omega,⟨rfl,_,rfl,by omega,by omega⟩⟩
theorem qy {g:Heap} {bb:Nat} {vb:Value} {p:Int} (n:Int) (r:bC g bb vb p) (hp:p<=100000000) (hn:1<=n/\n<=1000) :
  Dr prog 111 [.pointer (some ⟨bb,0,none⟩),.int .i64 n] g bb vb p 2 λg' v=>g'=g/\∃ t:Int,v=.int .i64 t/\dg n t:=by
 refine bZ au func111 VF VG rfl ?_;conv=>whnf
 refine bF r (by omega) (λx x0 x1 x2 r1=>?_);conv=>whnf
 repeat' ((first|exact⟨_,_,rfl,z_ g,r.free,by omega,by omega,⟨rfl,_,rfl,by unfold dg;omega⟩⟩|apply ax<;>intro _|refine ah ?_|refine bF r1 (by omega) (λy y0 y1 y2 r2=>?_))<;>conv=>whnf)
theorem sS {g:Heap} {bb:Nat} {vb:Value} {p:Int} (n:Int) (r:bC g bb vb p) (hp:p<=90000000) (hn:1<=n/\n<=1000) :
  Dr prog 55 [.pointer (some ⟨bb,0,none⟩),.int .i64 n] g bb vb p 4 λg' v=>g'=g/\∃ t:Int,v=.int .i64 t/\-1<=t/\t<=8+n:=by
 refine bZ au func55 F55 abx rfl ?_;conv=>whnf
 refine bF r (by omega) (λx x0 x1 x2 r1=>?_);conv=>whnf
 have field:∀ q,bC g bb vb q->q<=100000000->_:=λq rq hq=>qy n rq hq hn;repeat' ((first|exact⟨_,_,rfl,z_ g,r.free,by omega,by omega,⟨rfl,_,rfl,by omega⟩⟩|apply ax<;>intro _)<;>conv=>whnf)
 ·refine bF r1 (by omega) (λy y0 y1 y2 r2=>?_);conv=>whnf
  apply ax<;>intro _;all_goals conv=>whnf
  ·refine ah ?_;conv=>whnf
   refine bF r2 (by omega) (λz z0 z1 z2 r3=>?_);have hz:z=0\/z=1\/z=2\/z=3:=by omega
   rcases hz with rfl|rfl|rfl|rfl;all_goals
    conv=>whnf
    refine aq ?_;conv=>whnf
    exact⟨_,_,rfl,z_ g,r3.free,by omega,by omega,⟨rfl,_,rfl,by omega,by omega⟩⟩
  ·refine gY r2 (field _ r2 (by omega)) (λv g' q hl r3 h1 h2 hA=>?_);obtain⟨rfl,t,rfl,ht⟩:=hA;conv=>whnf
   exact⟨_,_,rfl,z_ _,r3.free,by omega,by omega,⟨rfl,_,rfl,by unfold dg at ht;omega⟩⟩
 ·refine gY r1 (field _ r1 (by omega)) (λv g' q hl r3 h1 h2 hA=>?_);obtain⟨rfl,t,rfl,ht⟩:=hA;conv=>whnf
  exact⟨_,_,rfl,z_ _,r3.free,by omega,by omega,⟨rfl,_,rfl,by unfold dg at ht;omega⟩⟩
def pz (h:Heap) (x:List Value) (c:eD) (B:List Nat):Prop:=∃ v,x=[.int .i64 c.bU,v]/\dR h v c.fields B
theorem tM:Kept pz:=λ_ _ _ _ _ hk ho=>by
 obtain⟨v,h1,h2⟩:=ho;exact⟨v,h1,h2.aJ hk⟩
theorem inK:OD pz:=λ_ _ _ _ ho=>by
 obtain⟨v,h1,h2⟩:=ho;exact h2.in
theorem Pr {α:Type} {R:Heap->List Value->α->List Nat->Prop} (hR:Kept R) (hI:OD R) {bytes sz:Nat} {zero:List Value} {el:TypeId} {g0 g:Heap} {bb:Nat} {vb:Value} {q0 q:Int} {p:Option Addr} {n cap:Nat} {l:List α} {a:α} {B Bi:List Nat} {m:Nat} {vs:List Value} {K:Value->Heap->Prop}
  (r0:bC g0 bb vb q0) (r:bC g bb vb q) (ho:eN R sz g (.slice p n cap) l B) (hy:R g vs a Bi) (hnd:Nd (B++Bi)) (hB:∀ b∈B++Bi,g0 b=none) (hle:g0.le g) (hm:m=1) (JT:vs.length=sz) (hc:eu vs=true) (hz:zero.length=sz)
  (gL:(l.length+1)*bytes<=2 ^ 44) (fO:l.length+1<=2 ^ 44)
  (hk:∀ v' g' B',g0.le g'->bC g' bb vb q->eN R sz g' v' (l++[a]) B'->Nd B'->(∀ b∈B',g0 b=none)->Ev g g' (B++Bi) B'->K v' (dz g' bb vb q)):App bytes sz zero el (dz g bb vb q) p n cap m vs K:=by
 have h0b:g0 bb=none:=by
  cases hx:g0 bb with
  | none=>rfl
  | some o=>have:=hle bb o hx;rw[r.free]at this;cases this
 have fW:∀ b∈B++Bi,∃ o,g b=some o:=λb hb=>(u_.1 hb).elim (ho.in hI b) (hI _ _ _ _ hy b);have GS:bb ∉ B++Bi:=λhx=>by obtain⟨o,h1⟩:=fW bb hx;rw[r.free]at h1;cases h1
 have J0:=aY (vb:=vb) (p:=q) r.free;refine oQ hR hI (h0:=g0) (ho.aJ hR (cR.of_le J0 _)) (hR _ _ _ _ _ (cR.of_le J0 _) hy) hnd hB (y_ hle J0) hm JT hc hz gL fO ?_;intro v' h' B' k1 k2 k3 k4 k5;obtain⟨o,MA⟩:=sn g bb vb q;have uC:h' bb=dz g bb vb q bb:=k5.iB bb (by rw[MA];simp) GS;have MB:bb ∉ B':=λhx=>by
  rcases k5.new bb hx with h1|h1
  ·exact GS h1
  ·rw[MA]at h1;cases h1
 have ne:∀ b,h' b≠none->b≠bb->bh h' bb b=h' b:=λb _ cH=>by unfold bh;rw[if_neg cH]
 have kp:cR h' (bh h' bb) B':=λb hb o ho=>by
  have:b≠bb:=by rintro rfl;exact MB hb
  unfold bh;rw[if_neg this];exact ho
 rw[pq uC];have hl:g0.le (bh h' bb):=vM k1 h0b;refine hk v' _ B' hl ⟨by simp[bh],by obtain⟨n,e1,e2⟩:=r0.bytes;exact⟨n,e1.le hl,e2⟩,r.lo⟩ (k2.aJ hR kp) k3 k4 ⟨λb hb hs=>?_,λb hb=>?_⟩
 ·have cH:b≠bb:=by rintro rfl;exact hb r.free
  unfold bh;rw[if_neg cH,k5.iB b (by rw[iQ cH];exact hb) hs,iQ cH]
 ·rcases k5.new b hb with h1|h1
  ·exact .inl h1
  ·have cH:b≠bb:=by rintro rfl;rw[MA]at h1;cases h1
   rw[iQ cH]at h1;exact .inr h1
theorem vQ {el:TypeId} {g0 g:Heap} {bb:Nat} {vb:Value} {q0 q:Int} {p:Option Addr} {n c m:Nat} {l k:List Int} {B:List Nat} {K:Value->Heap->Prop} (r0:bC g0 bb vb q0) (r:bC g bb vb q) (ho:dR g (.slice p n c) l B) (hB:∀ b∈B,g0 b=none) (hl:g0.le g) (hm:m=k.length) (hs:l.length+k.length<=1000000)
  (hk:∀ p' c' g' B',g0.le g'->bC g' bb vb q->dR g' (.slice p' (l++k).length c') (l++k) B'->(∀ b∈B',g0 b=none)->Ev g g' B B'->K (.slice p' (l++k).length c') (dz g' bb vb q)):App 8 1 [.int .i64 0] el (dz g bb vb q) p n c m (k.map (Value.int .i64)) K:=by
 refine oB r0 r (xs:=l.map bN) (ys:=k.map bN) ho hB hl (ek k).symm (by rw[hm];simp) (λy hy=>by obtain⟨w,_,rfl⟩:=List.mem_map.1 hy;rfl) (dS k) rfl (by simp;omega) (by simp;omega) ?_;intro v' g' B' k1 k2 k3 k4 k5 k6;have ER:dR g' v' (l++k) B':=by unfold dR;rw[List.map_append];exact k3
 obtain⟨p',c',rfl,_⟩:=cr.form ER;have tn:((l++k).map bN).length=(l++k).length:=by simp
 rw[tn]at ER ⊢;exact hk p' c' g' B' k1 k2 ER k4 ⟨λb hb hs=>k5 b hs hb,k6⟩
theorem vR {g:Heap} {bb:Nat} {vb:Value} {p:Int} (r:bC g bb vb p) (hp:p<=80000000) :
  Dr prog 104 [.pointer (some ⟨bb,0,none⟩)] g bb vb p 100 λg' v=>∃ cs B,eN pz 2 g' v cs B/\Nd B/\(∀ b∈B,g b=none)/\cI cs:=by
 refine bZ au func104 Z9 Tf rfl ?_;conv=>whnf
 refine bF r (by omega) (λx x0 x1 x2 r1=>?_);conv=>whnf
 refine ah ?_;conv=>whnf
 refine lV [.int .i64 1] r1 rfl (λbf g1 kz nbf l1 r2 e1=>?_);conv=>whnf
 refine lV [.int .i64 (-1),.slice none 0 0,.int .i64 0,.slice (some ⟨bf,0,none⟩) 1 1] r2 rfl (λbc g2 hbc Uz l2 r3 e2=>?_);have adV:bc≠bf:=by rintro rfl;rw[hbc]at e1;cases e1
 have o2:eN pz 2 g2 (.slice (some ⟨bc,0,none⟩) 2 2) [⟨-1,[]⟩,⟨0,[1]⟩] ([bc]++([]++([bf]++[]))):=by
  refine⟨[[.int .i64 (-1),.slice none 0 0],[.int .i64 0,.slice (some ⟨bf,0,none⟩) 1 1]],[bc],_,jC (by simp) rfl (by simpa using e2),.cons ⟨_,rfl,by simp,.inl ⟨rfl,rfl,rfl⟩⟩ (.cons ⟨_,rfl,?_⟩ .nil),rfl⟩;exact jC (by simp[bN]) rfl (by rw[l2 bf _ e1];rfl)
 have Un:Nd ([bc]++([]++([bf]++[]))):=λa=>by
  simp only[List.nil_append,List.append_nil,Y_,X_,List.count_nil];by_cases h1:bc=a
  ·have:¬bf=a:=by omega
   simp[h1,this]
  ·simp[h1];split<;>omega
 have f2:∀ b∈[bc]++([]++([bf]++[])),g b=none:=λb hb=>by
  simp at hb;rcases hb with rfl|rfl
  ·exact gv l1 hbc
  ·exact kz
 have ok2:∀ i (hi:i < ([⟨-1,[]⟩,⟨0,[1]⟩]:List eD).length),yO (2+x).toNat i ([⟨-1,[]⟩,⟨0,[1]⟩]:List eD)[i]:=λi hi=>by
  have NY:i=0\/i=1:=by simp at hi;omega
  rcases NY with rfl|rfl
  ·exact⟨λt ht=>by simp at ht,λ_=>⟨rfl,rfl⟩,λh=>by omega,λh=>by omega,by simp⟩
  ·exact⟨λt ht=>by simp at ht;subst ht;exact .inl rfl,λh=>by omega,λ_=>⟨rfl,rfl⟩,λh=>by omega,by simp⟩
 generalize hcs:([⟨-1,[]⟩,⟨0,[1]⟩]:List eD)=Ub at o2 ok2;have n2:Ub.length=2:=by rw[<-hcs];rfl
 conv=>whnf
 refine fh [0,3,4,5] [] (λy:Heap × Int × (Option Addr × Nat) × List eD × List Nat=>(y.2.2.2.1.length:Int)<=2+x/\2<=y.2.2.2.1.length/\g.le y.1/\bC y.1 bb vb y.2.1/\p<=y.2.1/\y.2.1<=p+1+10*y.2.2.2.1.length/\eN pz 2 y.1 (.slice y.2.2.1.1 y.2.2.2.1.length y.2.2.1.2) y.2.2.2.1 y.2.2.2.2/\Nd y.2.2.2.2/\(∀ b∈y.2.2.2.2,g b=none)/\∀ i (hi:i < y.2.2.2.1.length),yO (2+x).toNat i y.2.2.2.1[i]) (λy=>5-y.2.2.2.1.length)
  (λy=>([.v (.pointer (some ⟨bb,0,none⟩)),.v (.int .i64 (2+x)),.v (.slice y.2.2.1.1 y.2.2.2.1.length y.2.2.1.2),.v (.int .i64 y.2.2.2.1.length)],[],dz y.1 bb vb y.2.1))
  (g2,p+1,(some ⟨bc,0,none⟩,2),Ub,[bc]++([]++([bf]++[]))) ⟨by simp only;omega,by simp only;omega,y_ l1 l2,r3,by simp only;omega,by simp only;omega,by simp only;rw[n2];exact o2,Un,f2,ok2⟩ (by simp only;rw[n2];rfl) ?_
 rintro⟨g3,q3,⟨pa,ca⟩,cs,B⟩ ⟨hx,JS,l3,r3,qL,s9,o3,nd3,f3,ok3⟩;simp only at hx JS l3 r3 qL s9 o3 nd3 f3 ok3 ⊢;conv=>whnf
 apply ax<;>intro g1;all_goals conv=>whnf
 ·refine bF r3 (by omega) (λs s0 s1 s2 r4=>?_);conv=>whnf
  refine bF r4 (by omega) (λk k0 k1 k2 r5=>?_);conv=>whnf
  have adW:=o3.in inK;refine fh [0,3,4,5,6,7] [6] (λy:Heap × Int × Int × (Option Addr × Nat) × List Int × List Nat=>0<=y.2.2.1/\(y.2.2.2.2.1.length:Int)+y.2.2.1<=2/\g.le y.1/\bC y.1 bb vb y.2.1/\p<=y.2.1/\y.2.1<=q3+2+2*y.2.2.2.2.1.length/\eN pz 2 y.1 (.slice pa cs.length ca) cs B/\dR y.1 (.slice y.2.2.2.1.1 y.2.2.2.2.1.length y.2.2.2.1.2) y.2.2.2.2.1 y.2.2.2.2.2/\Nd (B++y.2.2.2.2.2)/\(∀ b∈y.2.2.2.2.2,g b=none)/\iS (2+x).toNat y.2.2.2.2.1) (λy=>y.2.2.1.toNat)
   (λy=>([.v (.pointer (some ⟨bb,0,none⟩)),.v (.int .i64 (2+x)),.v (.slice pa cs.length ca),.v (.int .i64 cs.length),.l 6 0,.v (.int .i64 y.2.2.1)],[some [.int .i64 s,.slice y.2.2.2.1.1 y.2.2.2.2.1.length y.2.2.2.1.2]],dz y.1 bb vb y.2.1))
   (g3,q3+1+1,k,(none,0),[],[]) ⟨k0,by simp only[List.length_nil];omega,l3,r5,by simp only;omega,by simp only[List.length_nil];omega,o3,⟨by simp,.inl ⟨rfl,rfl,rfl⟩⟩,by simpa using nd3,by simp,λt ht=>by simp at ht⟩ rfl ?_
  rintro⟨g6,q6,k6,⟨fp,fc⟩,fl,Bf⟩ ⟨Nv,HF,l6,r6,ig,ur,o6,w6,nd6,f6,t6⟩;simp only at Nv HF l6 r6 ig ur o6 w6 nd6 f6 t6 ⊢;conv=>whnf
  apply ax<;>intro g2;all_goals conv=>whnf
  ·have Jo:=qy (2+x) r6 (by omega) (by omega);have finish:∀ q7 t,bC g6 bb vb q7->q6<=q7->q7<=q6+2->dg (2+x) t->True:=λ_ _ _ _ _ _=>trivial;repeat' ((first|exact trivial|apply T_|refine gY r6 Jo (λv g7 q7 l7 r7 h1 h2 hA=>?_))<;>conv=>whnf)
   all_goals
    have hg7:=hA.1;refine hA.2.elim λt ht=>?_;have hv:=ht.1;have LJ:=ht.2;subst hv;subst hg7;conv=>whnf
    refine vQ (k:=[t]) (g0:=g) r r7 w6 f6 l6 rfl (by simp;omega) (λp8 c8 g8 B8 l8 r8 o8 f8 ev8=>?_);conv=>whnf
    refine ah ?_;conv=>whnf
    have dis:∀ b∈B,b ∉ Bf:=λb hb hx=>by
     have:=nd6 b;have:=W_.2 hb;have:=W_.2 hx;simp only[Y_]at *;omega
    have o6':=o6.in inK;have lf:(fl++[t]).length=fl.length+1:=by simp
    refine dm (g8,q7,k6-1,(p8,c8),fl++[t],B8) ⟨by simp only;omega,by simp only;omega,l8,r8,by simp only;omega,by simp only;omega,o6.aJ tM (ev8.aJ dis),o8,nd6.swap o8.nd (λb hb=>(ev8.new b hb).imp id (λhn hm=>by obtain⟨o,ho⟩:=o6' b hm;rw[hn]at ho;cases ho)),f8,λt' ht'=>?_⟩ (by simp only;omega) rfl;rcases u_.1 ht' with h3|h3
    ·exact t6 t' h3
    ·rw[V_.1 h3];rw[show(((2+x).toNat:Nat):Int)=2+x by omega];exact LJ
  ·refine Pr tM inK (a:=⟨s,fl⟩) r r6 o6 ⟨_,rfl,w6⟩ nd6 (λb hb=>(u_.1 hb).elim (f3 b) (f6 b)) l6 rfl rfl rfl rfl (Nat.le_trans (Nat.mul_le_mul_left _ (show _<=100 from Nat.le_of_ble_eq_true rfl)) (by omega)) (by omega) (λv g8 B8 l8 r8 o8 nd8 f8 ev8=>?_);have ff:=o8.form;refine ff.elim λp8 ff=>ff.elim λc8 hf=>?_;have hv:=hf.1;subst hv;conv=>whnf
   refine ah ?_;conv=>whnf
   have lf:(cs++[(⟨s,fl⟩:eD)]).length=cs.length+1:=by simp
   refine dm (g8,q6,(p8,c8),cs++[⟨s,fl⟩],B8) ⟨by simp only[lf];omega,by simp only[lf];omega,l8,r8,by simp only;omega,by simp only[lf];omega,o8,nd8,f8,λi hi=>?_⟩ (by simp only[lf];omega) (by simp only[lf];rfl);by_cases bV:i < cs.length
   ·simp only[List.getElem_append_left bV];exact ok3 i bV
   ·have mB:i=cs.length:=by simp only[lf]at hi;omega
    subst mB;simp only[List.getElem_append_right (Nat.le_refl _),Nat.sub_self,List.getElem_cons_zero];have:=s1 (by omega);exact⟨t6,λh=>by omega,λh=>by omega,λ_=>⟨s0,this⟩,by show fl.length<=2;omega⟩
 ·have hce:(2+x).toNat=cs.length:=by omega
  rw[hce]at ok3;exact⟨_,_,rfl,l3,r3.free,by omega,by omega,cs,B,o3,nd3,f3,JS,by omega,ok3⟩
def tw (h:Heap) (v:Value) (l:List Int) (B:List Nat):Prop:=(v=.slice none 0 0/\l=[]/\B=[])\/∃ b r t,v=.slice (some ⟨b,0,none⟩) l.length (l++r).length/\h b=some (.cells ((l++r).map (Value.int .i64)).toArray t (0,0))/\(∀ x∈l++r,cY x)/\B=[b]
theorem tw.own {h:Heap} {v:Value} {l:List Int} {B:List Nat} (ho:tw h v l B):dR h v l B:=by
 rcases ho with ⟨rfl,rfl,rfl⟩|⟨b,r,t,rfl,hb,_,rfl⟩
 ·exact⟨by simp,.inl ⟨rfl,rfl,rfl⟩⟩
 ·refine⟨λx hx=>by obtain⟨w,_,rfl⟩:=List.mem_map.1 hx;rfl,.inr ⟨b,(l++r).length,r.map (Value.int .i64),t,by simp,by simp,?_,by rw[ek];simp,rfl⟩⟩;rw[ek,<-List.map_append];exact hb
theorem tw.aJ {h h':Heap} {v:Value} {l:List Int} {B:List Nat} (hk:cR h h' B) (ho:tw h v l B):tw h' v l B:=by
 rcases ho with h1|⟨b,r,t,e1,hb,e2,rfl⟩
 ·exact .inl h1
 ·exact .inr ⟨b,r,t,e1,hk b (by simp) _ hb,e2,rfl⟩
theorem aaj {el:TypeId} {h0 h:Heap} {p:Option Addr} {n cap m:Nat} {l k:List Int} {B:List Nat} {K:Value->Heap->Prop} (ho:tw h (.slice p n cap) l B) (hB:∀ b∈B,h0 b=none) (hle:h0.le h) (hm:m=k.length) (hi:∀ x∈k,cY x) (hs:l.length+k.length<=1000000)
  (hk:∀ v' h' B',h0.le h'->tw h' v' (l++k) B'->(∀ b∈B',h0 b=none)->Ev h h' B B'->K v' h'):App 8 1 [.int .i64 0] el h p n cap m (k.map (Value.int .i64)) K:=by
 subst hm;have GO:=dS k;have qB:∀ b,h b=none->h0 b=none:=λb hb=>by
  cases hh:h0 b with
  | none=>rfl
  | some x=>rw[hle b x hh]at hb;cases hb
 have grow:∀ b c (r:List Int),h b=none->(l++k).length<=c->r=List.replicate (c-(l++k).length) 0->(∀ x∈l,cY x)->K (.slice (some ⟨b,0,none⟩) (l++k).length c) (h.set b (.cells ((l++k++r).map (Value.int .i64)).toArray el)):=λb c r hb hc hr hl=>by
  refine hk _ _ [b] (Heap.aP hle (qB b hb)) (.inr ⟨b,r,el,?_,dh _ _ _,λx hx=>?_,rfl⟩) (λb' bA=>by rw[V_.1 bA];exact qB b hb) ⟨λb' hn _=>?_,λb' bA=>?_⟩
  ·rw[hr];simp at hc ⊢;omega
  ·simp only[u_]at hx;rcases hx with (hx|hx)|hx
   ·exact hl x hx
   ·exact hi x hx
   ·rw[hr]at hx;rw[List.eq_of_mem_replicate hx];unfold cY;omega
  ·have:b'≠b:=by rintro rfl;exact hn hb
   simp[Heap.set,this]
  ·rw[V_.1 bA];exact .inr hb
 have Dl:(l++k).length=l.length+k.length:=by simp
 have hzero:∀ c,(List.replicate c [Value.int .i64 0]).flatten=(List.replicate c (0:Int)).map (Value.int .i64):=λc=>by
  induction c with
  | zero=>rfl
  | succ c ih=>rw[List.replicate_succ,List.flatten_cons,ih,List.replicate_succ,List.map_cons];rfl
 rw[pM];unfold BP;rcases ho with ⟨he,rfl,rfl⟩|⟨b,r,t,he,hb,hx,rfl⟩
 ·simp only[Z_]at he;obtain⟨rfl,rfl,rfl⟩:=he;refine⟨λh1=>⟨GO,?_⟩,λh1=>⟨by omega,by omega,[],⟨rfl,rfl⟩,λb c hb gF=>?_⟩⟩
  ·have Nv:k=[]:=List.eq_nil_of_length_eq_zero (by omega);subst Nv;exact⟨rfl,hk _ _ [] hle (.inl ⟨rfl,rfl,rfl⟩) (by simp) (Ev.refl h [])⟩
  ·have:=grow b c (List.replicate (c-k.length) 0) hb (by simpa using gF) (by simp) (by simp);simp only[List.nil_append,List.map_append]at this ⊢;rw[Nat.zero_add,hzero];exact this
 ·simp only[Z_]at he;obtain⟨rfl,rfl,rfl⟩:=he;have hl:∀ x∈l,cY x:=λx h=>hx x (by simp[h]);refine⟨λh1=>⟨GO,_,t,hb,by simp at h1 ⊢;omega,?_⟩,λh1=>⟨by omega,by omega,l.map (Value.int .i64),?_,λb' c bA gF=>?_⟩⟩
  ·have NT:k.length<=r.length:=by simp at h1;omega
   have hw:eS ((l++r).map (Value.int .i64)) (0+l.length*1) (k.map (Value.int .i64))=((l++k)++r.drop k.length).map (Value.int .i64):=by
    rw[Nat.zero_add,Nat.mul_one,List.map_append];have:=iK (k.map (Value.int .i64)) (l.map (Value.int .i64)) (r.map (Value.int .i64)) (by simpa using NT);rw[List.length_map,List.length_map]at this;rw[this];simp
   refine hk _ _ [b] (Heap.aP hle (hB b (by simp))) (.inr ⟨b,r.drop k.length,t,?_,?_,λx h=>?_,rfl⟩) hB ⟨λb' hn hs=>?_,λb' h=>.inl h⟩
   ·simp;omega
   ·rw[<-hw];exact dh _ _ _
   ·simp only[u_]at h;rcases h with (h|h)|h
    ·exact hl x h
    ·exact hi x h
    ·exact hx x (by simp[List.mem_of_mem_drop h])
   ·have:b'≠b:=by rintro rfl;exact hs (by simp)
    simp[Heap.set,this]
  ·show fj h b 0 (l.length*1)=some _;rw[bO hb _ _ (by simp)];simp
  ·have:=grow b' c (List.replicate (c-(l.length+k.length)) 0) bA (by simpa using gF) (by simp) hl;simp only[List.map_append,List.append_assoc]at this ⊢;rw[hzero];rw[Dl]at this;exact this
theorem aak {g h':Heap} {bb:Nat} {vb:Value} {q:Int} {B B':List Nat} (hb:g bb=none) (hB:∀ b∈B,∃ o,g b=some o) (ev:Ev (dz g bb vb q) h' B B'):h'=dz (bh h' bb) bb vb q/\Ev g (bh h' bb) B B'/\cR h' (bh h' bb) B':=by
 obtain⟨o,MA⟩:=sn g bb vb q;have GS:bb ∉ B:=λhx=>by obtain⟨o,h1⟩:=hB bb hx;rw[hb]at h1;cases h1
 have uC:h' bb=dz g bb vb q bb:=ev.iB bb (by rw[MA];simp) GS;have MB:bb ∉ B':=λhx=>by
  rcases ev.new bb hx with h1|h1
  ·exact GS h1
  ·rw[MA]at h1;cases h1
 refine⟨pq uC,⟨λb hn hs=>?_,λb hm=>?_⟩,λb hm o ho=>?_⟩
 ·have cH:b≠bb:=by rintro rfl;exact hn hb
  unfold bh;rw[if_neg cH,ev.iB b (by rw[iQ cH];exact hn) hs,iQ cH]
 ·rcases ev.new b hm with h1|h1
  ·exact .inl h1
  ·have cH:b≠bb:=by rintro rfl;rw[MA]at h1;cases h1
   rw[iQ cH]at h1;exact .inr h1
 ·have:b≠bb:=by rintro rfl;exact MB hm
  unfold bh;rw[if_neg this];exact ho
theorem br {g0 g:Heap} {b:Nat} (hl:g0.le g) (hb:g b=none):g0 b=none:=by
 cases hx:g0 b with
 | none=>rfl
 | some o=>have:=hl b o hx;rw[hb]at this;cases this
theorem tw.in {h:Heap} {v:Value} {l:List Int} {B:List Nat} (ho:tw h v l B):∀ b∈B,∃ o,h b=some o:=ho.own.in
theorem tw.form {h:Heap} {v:Value} {l:List Int} {B:List Nat} (ho:tw h v l B):∃ p c,v=.slice p l.length c:=by
 rcases ho with ⟨rfl,rfl,_⟩|⟨b,r,t,rfl,_⟩
 ·exact⟨_,_,rfl⟩
 ·exact⟨_,_,rfl⟩
theorem Pt {el:TypeId} {g0 g:Heap} {bb:Nat} {vb:Value} {q0 q:Int} {p:Option Addr} {n c m:Nat} {l k:List Int} {B:List Nat} {K:Value->Heap->Prop} (r0:bC g0 bb vb q0) (r:bC g bb vb q) (ho:tw g (.slice p n c) l B) (hB:∀ b∈B,g0 b=none) (hl:g0.le g) (hm:m=k.length) (hi:∀ x∈k,cY x) (hs:l.length+k.length<=1000000)
  (hk:∀ p' c' g' B',g0.le g'->bC g' bb vb q->tw g' (.slice p' (l++k).length c') (l++k) B'->(∀ b∈B',g0 b=none)->Ev g g' B B'->K (.slice p' (l++k).length c') (dz g' bb vb q)):App 8 1 [.int .i64 0] el (dz g bb vb q) p n c m (k.map (Value.int .i64)) K:=by
 have J0:=aY (vb:=vb) (p:=q) r.free;refine aaj (h0:=g0) (ho.aJ (cR.of_le J0 _)) hB (y_ hl J0) hm hi hs ?_;intro v' h' B' k1 k2 k3 k4;obtain⟨e1,e2,e3⟩:=aak r.free ho.in k4;have tn:g0.le (bh h' bb):=vM k1 (br hl r.free);have uE:=k2.aJ e3;obtain⟨p',c',rfl⟩:=uE.form;rw[e1];exact hk p' c' _ B' tn ⟨by simp[bh],by obtain⟨n,a1,a2⟩:=r0.bytes;exact⟨n,a1.le tn,a2⟩,r.lo⟩ uE k3 e2
def tA (h:Heap) (a:Value) (l:List Int):Prop:=∃ B,tw h a l B
def MC (h0 h:Heap) (a:Value) (l:List Int):Prop:=∃ B,tw h a l B/\∀ b∈B,h0 b=none
theorem MC.toZ {h0 h:Heap} {a:Value} {l:List Int} (z:MC h0 h a l):tA h a l:=by
 obtain⟨B,h1,_⟩:=z;exact⟨B,h1⟩
theorem MC.bh {h0 h:Heap} {a:Value} {l:List Int} {b:Nat} (z:MC h0 h a l) (hb:h0 b≠none):tA (bh h b) a l:=by
 obtain⟨B,h1,h2⟩:=z;refine⟨B,h1.aJ λx hx o ho=>?_⟩;have:x≠b:=by rintro rfl;exact hb (h2 _ hx)
 unfold Go.Proofs.bh;rw[if_neg this];exact ho
def eR (cls fG:Int) (a:Value) (out locals:Int):List Value:=[.int .i64 cls,.int .i64 fG,a,.int .i64 out,.int .i64 locals,.slice none 0 0,.slice none 0 0,.slice none 0 0]
theorem vS {g:Heap} {bb:Nat} {vb:Value} {p:Int} (n:Nat) (r:bC g bb vb p) (hp:p<=80000000) (hn:1<=n/\n<=1000) :
  Dr prog 147 [.pointer (some ⟨bb,0,none⟩),.int .i64 n] g bb vb p 10 λg' v=>∃ a out l,v=.agg ⟨eR 0 0 a out 0⟩/\MC g g' a l/\l.length<=2/\iS n l/\dg n out:=by
 refine bZ au func147 aac Ti rfl ?_;conv=>whnf
 refine gY r (qy n r (by omega) (by omega)) (λv g1 q1 l1 r1 h1 h2 hA=>?_);obtain⟨rfl,out,rfl,ht⟩:=hA;conv=>whnf
 refine bF r1 (by omega) (λk k0 k1 k2 r5=>?_);conv=>whnf
 refine fh [0,1,4,5,6] [4,5] (λy:Heap × Int × Int × (Option Addr × Nat) × List Int × List Nat=>0<=y.2.2.1/\(y.2.2.2.2.1.length:Int)+y.2.2.1<=2/\g1.le y.1/\bC y.1 bb vb y.2.1/\p<=y.2.1/\y.2.1<=p+4+2*y.2.2.2.2.1.length/\tw y.1 (.slice y.2.2.2.1.1 y.2.2.2.2.1.length y.2.2.2.1.2) y.2.2.2.2.1 y.2.2.2.2.2/\(∀ b∈y.2.2.2.2.2,g1 b=none)/\iS n y.2.2.2.2.1) (λy=>y.2.2.1.toNat)
  (λy=>([.v (.pointer (some ⟨bb,0,none⟩)),.v (.int .i64 n),.l 4 0,.l 5 0,.v (.int .i64 y.2.2.1)],[some (eR 0 0 (.slice none 0 0) 0 0),some (eR 0 0 (.slice y.2.2.2.1.1 y.2.2.2.2.1.length y.2.2.2.1.2) out 0)],dz y.1 bb vb y.2.1))
  (g1,q1+1,k,(none,0),[],[]) ⟨k0,by simp only[List.length_nil];omega,z_ _,r5,by simp only;omega,by simp only[List.length_nil];omega,.inl ⟨rfl,rfl,rfl⟩,by simp,λt ht=>by simp at ht⟩ rfl ?_
 rintro⟨g6,q6,k6,⟨fp,fc⟩,fl,Bf⟩ ⟨Nv,HF,l6,r6,ig,ur,w6,f6,t6⟩;simp only at Nv HF l6 r6 ig ur w6 f6 t6 ⊢;conv=>whnf
 apply ax<;>intro g2;all_goals conv=>whnf
 ·have Jo:=qy n r6 (by omega) (by omega);repeat' ((first|exact trivial|apply T_|refine gY r6 Jo (λv g7 q7 l7 r7 h1 h2 hA=>?_))<;>conv=>whnf)
  all_goals
   have hg7:=hA.1;refine hA.2.elim λt ht=>?_;have hv:=ht.1;have LJ:=ht.2;subst hv;subst hg7;conv=>whnf
   refine Pt (k:=[t]) (g0:=g1) r1 r7 w6 f6 l6 rfl (λx hx=>by rw[V_.1 hx];unfold dg at LJ;unfold cY;omega) (by simp;omega) (λp8 c8 g8 B8 l8 r8 o8 f8 ev8=>?_);conv=>whnf
   refine ah ?_;conv=>whnf
   have lf:(fl++[t]).length=fl.length+1:=by simp
   refine dm (g8,q7,k6-1,(p8,c8),fl++[t],B8) ⟨by simp only;omega,by simp only;omega,l8,r8,by simp only;omega,by simp only;omega,o8,f8,λt' ht'=>?_⟩ (by simp only;omega) rfl;rcases u_.1 ht' with h3|h3
   ·exact t6 t' h3
   ·rw[V_.1 h3];exact LJ
 ·exact⟨_,_,rfl,l6,r6.free,by omega,by omega,_,_,_,rfl,⟨_,w6,f6⟩,by omega,t6,ht⟩
def Tt {α:Type} (R:Heap->List Value->α->Prop):Prop:=∀(h h':Heap) (x:List Value) (a:α),h.le h'->R h x a->R h' x a
structure vT {α:Type} (sz:Nat) (R:Heap->List Value->α->Prop) (h0 h:Heap) (b c:Nat) (A:List α):Prop where
 le:h0.le h
 fr:h0 b=none
 row:∃ aS,cr sz h (.slice (some ⟨b,0,none⟩) A.length c) aS [b]/\aS.length=A.length/\∀ i (h1:i < aS.length) (h2:i < A.length),R (bh h b) aS[i] A[i]
variable {α:Type} {sz:Nat} {R:Heap->List Value->α->Prop} {h0 h h':Heap} {b c:Nat} {A:List α}
theorem vT.in (a:vT sz R h0 h b c A):∃ o,h b=some o:=by
 obtain⟨aS,ho,_⟩:=a.row;exact ho.in b (by simp)
theorem vT.aJ (hR:Tt R) (a:vT sz R h0 h b c A) (hl:h.le h'):vT sz R h0 h' b c A:=by
 obtain⟨aS,ho,hn,hr⟩:=a.row;exact⟨y_ a.le hl,a.fr,aS,ho.aJ (cR.of_le hl _),hn,λi h1 h2=>hR _ _ _ _ (cy b hl) (hr i h1 h2)⟩
theorem vT.at (a:vT sz R h0 h b c A) {i:Nat} (hi:i < A.length) :
  ∃ vs,fj h b (0+i*sz) sz=some vs/\vs.length=sz/\R (bh h b) vs A[i] /\
   ∃ pre post t,h b=some (.cells (pre++vs++post).toArray t (0,0))/\pre.length=i*sz /\
   ∀(og:List Value) (s:α) (h2:Heap),og.length=sz->h2=h.set b (.cells (pre++og++post).toArray t (0,0))->R (bh h b) og s->bh h2 b=bh h b/\vT sz R h0 h2 b c (A.set i s):=by
 obtain⟨aS,ho,hn,hr⟩:=a.row;have wD:i < aS.length:=by omega
 have tX:aS=aS.take i++aS[i]::aS.drop (i+1):=by simp
 have AS:cr sz h (.slice (some ⟨b,0,none⟩) A.length c) (aS.take i++aS[i]::aS.drop (i+1)) [b]:=by rw[<-tX];exact ho
 obtain⟨bl,cl,pre,post,tl,hq,td,fV,Te,hB,fe⟩:=AS.at;simp only[Z_,v_,Addr.mk.injEq]at hq;obtain⟨⟨rfl,_⟩,_,rfl⟩:=hq;have lF:pre.length=i*sz:=by rw[fV,List.length_take,Nat.min_eq_left (by omega)]
 refine⟨aS[i],?_,Te,hr i wD hi,pre,post,tl,td,lF,λvs s h5 Cz e5 hs=>?_⟩
 ·rw[bO td sz (0+i*sz) (by simp[lF,Te])];rw[List.append_assoc,Nat.zero_add,<-lF,List.drop_left,List.take_left' Te]
 ·have hh:bh h5 b=bh h b:=by rw[e5,zC]
  have g5:h5 b=some (.cells (pre++vs++post).toArray tl (0,0)):=by rw[e5];exact dh _ _ _
  have I8:aS.set i vs=aS.take i++vs::aS.drop (i+1):=by rw[List.set_eq_take_append_cons_drop,if_pos wD]
  refine⟨hh,?_,a.fr,aS.set i vs,?_,by simp[hn],λj h1 h2=>?_⟩
  ·rw[e5];exact Heap.aP a.le a.fr
  ·rw[I8,List.length_set];exact fe h5 vs g5 Cz
  ·rw[hh];simp only[List.getElem_set];split
   ·exact hs
   ·exact hr j (by simpa using h1) (by simpa using h2)
theorem vT.oB (hR:Tt R) {bb:Nat} {vb:Value} {q0 q:Int} {n bytes:Nat} {zero:List Value} {el:TypeId} {vs:List Value} {s:α} {K:Value->Heap->Prop} (r0:bC h0 bb vb q0) (r:bC h bb vb q) (a:vT sz R h0 h b c A) (hn:n=A.length) (jB:R (bh h b) vs s) (Cz:vs.length=sz) (GO:eu vs=true) (hA:A.length<=1000) (hz:zero.length=sz) (hb:bytes<=1000)
  (hk:∀ b' c' h',vT sz R h0 h' b' c' (A++[s])->(bh h b).le (bh h' b')->bC h' bb vb q->K (.slice (some ⟨b',0,none⟩) (A.length+1) c') (dz h' bb vb q)):App bytes sz zero el (dz h bb vb q) (some ⟨b,0,none⟩) n c 1 vs K:=by
 subst hn;obtain⟨aS,ho,hn,hr⟩:=a.row;have hm:(aS.length + [vs].length)*bytes<=1001*1000:=Nat.mul_le_mul (by simp;omega) hb;refine Go.Proofs.oB r0 r (xs:=aS) (ys:=[vs]) (B:=[b]) ho (by simpa using a.fr) a.le (by simp) rfl (by simpa using Cz) GO hz (by omega) (by simp;omega) ?_;intro v' h' B' w1 wr w2 w3 w4 w5;have Pp:=w2;obtain⟨hx,⟨_,NH,_⟩|⟨b',c',rest,t,rfl,hc,uC,_,rfl⟩⟩:=w2
 ·simp at NH
 have hl2:(aS++[vs]).length=A.length+1:=by simp[hn]
 rw[hl2]at Pp ⊢;have hle:(bh h b).le (bh h' b'):=λx o hx=>by
  unfold bh at hx ⊢;split at hx
  ·cases hx
  rename_i So;have cH:x≠b':=by
   rintro rfl;rcases w5 x (by simp)with h1|h1
   ·exact So (by simpa using h1)
   ·rw[h1]at hx;cases hx
  rw[if_neg cH,w4 x (by simpa using So) (by rw[hx];simp)];exact hx
 refine hk b' c' h' ⟨w1,w3 b' (by simp),aS++[vs],by simpa using Pp,by simp[hn],λi h1 h2=>?_⟩ hle wr;by_cases hi:i < A.length
 ·rw[List.getElem_append_left (by omega),List.getElem_append_left hi];exact hR _ _ _ _ hle (hr i (by omega) hi)
 ·have Cd:i=A.length:=by simp at h2;omega
  subst Cd;rw[List.getElem_append_right (by omega),List.getElem_append_right (by omega)];simp only[hn,Nat.sub_self,List.getElem_cons_zero];exact hR _ _ _ _ hle jB
theorem CZ {g:Heap} {bb b:Nat} {vb:Value} {q:Int} {o:Obj} (h:b≠bb):(dz g bb vb q).set b o=dz (g.set b o) bb vb q:=by
 funext x
 unfold dz;simp only[Heap.set];by_cases e1:x=b
 ·have:x≠bb:=by rw[e1];exact h
  simp[e1,h]
 ·simp[e1]
theorem jS {g:Heap} {bb b off:Nat} {vb:Value} {q:Int} {cs jU vs:List Value} {t:TypeId} {K:Heap->Prop} (uC:g bb=none) (hb:g b=some (.cells cs.toArray t (0,0))) (hl:off+vs.length<=cs.length) (hx:eS cs off vs=jU)
  (hk:K (dz (g.set b (.cells jU.toArray t (0,0))) bb vb q)):St (dz g bb vb q) b off vs K:=by
 have cH:b≠bb:=by rintro rfl;rw[uC]at hb;cases hb
 refine Ag (h:=dz g bb vb q) (b:=b) (by rw[iQ cH];exact hb) jU hl hx (λh5 e5 g5=>?_);rw[e5,CZ cH];exact hk
end Go.Proofs
