/- Part 5 of the lemmas on which the law rests: what functions of the program and of the reference do; no conditions but those that each lemma states. -/
import Derived.Test.YtclenamodemnpaaGreatMf4
set_option linter.unusedSimpArgs false
set_option linter.unusedVariables false
namespace Go.Proofs
open Go.Vc Go.Proofs.Tryz
set_option maxRecDepth 100000
set_option maxHeartbeats 40000000
theorem pR (h0 h:Heap) (bs bm bf off:Nat) (u:aU) (fs:List bU) (f:bU) (M:bZ) (B:List Nat) (a b k:Int) (hk:k=1\/k=2\/k=3\/k=4\/k=5\/k=6\/k=7\/k=8\/k=9\/k=10\/k=11\/k=12) (hS:kq h0 h bs bm bf off u (br u f.ah) fs f M B) (hu:eC u) (hI:G6 u M) (gp:¬((br u f.ah).code.length:Int)<=f.pc) (jz:(br u f.ah).code.getD f.pc.toNat dW=⟨k,a,b⟩) :
  cH prog 142 [.pointer (some ⟨bs,0,none⟩)] h (pq h0 h bm B (lz u fs f M)):=by
 have G7:f∈M.ag:=by rw[hS.ag];simp
 have hF:=hI.jy f G7;have OF:=hu.2.2.2.1 _ (ir hF.ah);have ok:=hu.1;obtain⟨EP,V9⟩:=hF.pc;have Qg:=OF.2.1.2.1;obtain⟨r1,r2,_,p,cc,q,d,CT,r9,gV,P3,p2,c2,r6,mw⟩:=hS.mp;obtain⟨t0,q0,rr0,v10,v20,_,Wa,p7,s1,_⟩:=hS.uZ;have cG:f.pc.toNat < (br u f.ah).code.length:=by omega
 have LN:(br u f.ah).code[f.pc.toNat]=⟨k,a,b⟩:=by rw[<-jz];simp[cG]
 have e:=mw.get cG;rw[LN]at e;obtain⟨bb,oo,xs,vw,e1,e2,e3,e4,e5⟩:=e;subst e2;have DZ:eG h bb (oo+f.pc.toNat*3) 3=some [.int .i64 k,.int .i64 a,.int .i64 b]:=bK hS.ma.le e1;have kK:=OF.2.1.2.2.2.1 _ (List.getElem_mem cG);rw[LN]at kK;refine outs au func142 My I2 rfl ?_;conv=>whnf
 repeat' ((first|refine ld r1 ?_|refine ld s1 ?_|refine ld r6 ?_|refine aq ?_|refine aj ?_|refine ptr ?_)<;>conv=>whnf)
 refine cy gp ?_;conv=>whnf
 repeat' ((first|refine ld r1 ?_|refine ld s1 ?_|refine ld r6 ?_|refine aO vw ?_|refine dK DZ ?_|refine aq ?_|refine aj ?_|refine ptr ?_)<;>conv=>whnf)
 refine cW (Jw h0 h bs bm bf off u _ fs f M B ⟨k,a,b⟩ hS (eH.ok hu kK) (by have:=hF.cA;omega)) ?_ ?_;rotate_left
 ·rintro c h' ⟨k1,k2,k3⟩;refine⟨0,?_,k2,k3⟩;unfold lz;simp only[if_neg gp,jz,k1]
 rintro vt h1 ⟨aS,rest,tC,B1,Bt,fE,fD,ot,jx⟩;obtain⟨ws,me,kS,ez,dZ⟩:=mq tC;have JG:rest.length<=4:=by have:=hF.cA;rw[dZ]at this;simp at this;omega
 have D1:∀ v∈aS,v.ref=true->0<=v.n/\v.n<=M.objs.length:=λv hv=>hF.vs v (by rw[dZ];simp[hv]);rcases hk with rfl|rfl|rfl|rfl|rfl|rfl|rfl|rfl|rfl|rfl|rfl|rfl
 ·have hi:=(aI (u:=u) (m:=br u f.ah) (a:=a) (b:=b) (k:=1) rfl).1 kK;obtain⟨pt,ct,rfl,_⟩:=ot.form;obtain⟨t1,q1,yp,v11,yq,w1,mz,rV,w2,_⟩:=fE.uZ;have w2:rd h1 bf (off+1)=some (.int .i64 f.pc):=w2;have gL:∀ b∈Bt,b ∉ bm::B1/\b≠bs:=λb U=>⟨(jx b U).1,(jx b U).2.1⟩
  have iu:=eD (fs:=fs) (M:=M) gp jz tC (by simp);conv=>whnf
  repeat' ((first|refine ld w1 ?_|refine ld w2 ?_|refine aq ?_|refine aj ?_|refine ptr ?_)<;>conv=>whnf)
  refine cW (oZ h0 h1 bs bm bf off u _ fs _ _ B1 ⟨false,a⟩ fE) ?_ ?_
  ·rintro vv h2 ⟨k1,B2,kH,gP⟩;conv=>whnf
   first|refine kH.ym ?_|skip
   conv=>whnf
   refine kH.jP (λh9 B9 lI lJ=>?_);conv=>whnf
   exact⟨_,(by rw[iu];rw[show gK u ⟨1,a,b⟩ aS M.objs {f with stack:=rest} M.said=eV M.objs {f with stack:=rest} M.said ⟨false,a⟩from rfl];rw[nW k1];rfl),B9,lI,fD.trans (gP.trans lJ)⟩
  ·rintro c h2 ⟨k1,k2,k3⟩;exact⟨0,by rw[iu];rw[show gK u ⟨1,a,b⟩ aS M.objs {f with stack:=rest} M.said=eV M.objs {f with stack:=rest} M.said ⟨false,a⟩from rfl];rw[lK k1],k2,k3⟩
 ·have hi:=(aI (u:=u) (m:=br u f.ah) (a:=a) (b:=b) (k:=2) rfl).1 kK;obtain⟨pt,ct,rfl,_⟩:=ot.form;obtain⟨t1,q1,yp,v11,yq,w1,mz,rV,w2,_⟩:=fE.uZ;have w2:rd h1 bf (off+1)=some (.int .i64 f.pc):=w2;have gL:∀ b∈Bt,b ∉ bm::B1/\b≠bs:=λb U=>⟨(jx b U).1,(jx b U).2.1⟩
  have iu:=eD (fs:=fs) (M:=M) gp jz tC (by simp);conv=>whnf
  repeat' ((first|refine ld w1 ?_|refine ld w2 ?_|refine aq ?_|refine aj ?_|refine ptr ?_)<;>conv=>whnf)
  refine ay (mZ _ _) ?_;conv=>whnf
  refine cW (oZ h0 h1 bs bm bf off u _ fs _ _ B1 ⟨true,0⟩ fE) ?_ ?_
  ·rintro vv h2 ⟨k1,B2,kH,gP⟩;conv=>whnf
   first|refine kH.ym ?_|skip
   conv=>whnf
   refine kH.jP (λh9 B9 lI lJ=>?_);conv=>whnf
   exact⟨_,(by rw[iu];rw[show gK u ⟨2,a,b⟩ aS M.objs {f with stack:=rest} M.said=eV M.objs {f with stack:=rest} M.said ⟨true,0⟩from rfl];rw[nW k1];rfl),B9,lI,fD.trans (gP.trans lJ)⟩
  ·rintro c h2 ⟨k1,k2,k3⟩;exact⟨0,by rw[iu];rw[show gK u ⟨2,a,b⟩ aS M.objs {f with stack:=rest} M.said=eV M.objs {f with stack:=rest} M.said ⟨true,0⟩from rfl];rw[lK k1],k2,k3⟩
 ·have hi:=(aI (u:=u) (m:=br u f.ah) (a:=a) (b:=b) (k:=3) rfl).1 kK;obtain⟨pt,ct,rfl,_⟩:=ot.form;obtain⟨t1,q1,yp,v11,yq,w1,mz,rV,w2,_⟩:=fE.uZ;have w2:rd h1 bf (off+1)=some (.int .i64 f.pc):=w2;have gL:∀ b∈Bt,b ∉ bm::B1/\b≠bs:=λb U=>⟨(jx b U).1,(jx b U).2.1⟩
  have iu:=eD (fs:=fs) (M:=M) gp jz tC (by simp);have ha:=hi.1;simp[bA]at ha;have nr:=hF.loc;have Wb:a.toNat < f.locals.length:=by omega
  obtain⟨vl,Bl,l1,ol⟩:=fE.aar;have ol:cq h1 vl f.locals Bl:=ol;obtain⟨pl,cl,rfl,_⟩:=ol.form;have sW:0 < f.locals.length:=by omega
  have e9:=ol.all sW;obtain⟨bl,hql,OG,dQ⟩:=e9;have OG:(List.map bR f.locals).length=f.locals.length:=OG;have nl:eG h1 bl (0+a.toNat*2) 2=some (bR f.locals[a.toNat]):=(dQ a.toNat Wb).1;conv=>whnf
  repeat' ((first|refine ld w1 ?_|refine ld w2 ?_|refine aq ?_|refine aj ?_|refine ptr ?_)<;>conv=>whnf)
  repeat' ((first|refine ld w1 ?_|refine ld l1 ?_|refine aO hql ?_|refine dK nl ?_|refine aq ?_|refine aj ?_|refine ptr ?_)<;>conv=>whnf)
  have fY:gK u ⟨3,a,b⟩ aS M.objs {f with stack:=rest} M.said=eV M.objs {f with stack:=rest} M.said f.locals[a.toNat]:=by
   show eV _ _ _ (f.locals.getD a.toNat cJ)=_;rw[rE Wb]
  refine cW (oZ h0 h1 bs bm bf off u _ fs _ _ B1 f.locals[a.toNat] fE) ?_ ?_
  ·rintro vv h2 ⟨k1,B2,kH,gP⟩;conv=>whnf
   first|refine kH.ym ?_|skip
   conv=>whnf
   refine kH.jP (λh9 B9 lI lJ=>?_);conv=>whnf
   exact⟨_,(by rw[iu,fY,nW k1];rfl),B9,lI,fD.trans (gP.trans lJ)⟩
  ·rintro c h2 ⟨k1,k2,k3⟩;exact⟨0,by rw[iu,fY,lK k1],k2,k3⟩
 ·have hi:=(aI (u:=u) (m:=br u f.ah) (a:=a) (b:=b) (k:=4) rfl).1 kK;have pS:ws=[0]:=by simpa [cM]using me.symm
  rw[pS]at kS ez;obtain⟨v0,rfl⟩:=fG kS;obtain⟨pt,ct,rfl,_⟩:=ot.form;obtain⟨t1,q1,yp,v11,yq,w1,mz,rV,w2,_⟩:=fE.uZ;have w2:rd h1 bf (off+1)=some (.int .i64 f.pc):=w2;have gL:∀ b∈Bt,b ∉ bm::B1/\b≠bs:=λb U=>⟨(jx b U).1,(jx b U).2.1⟩
  have iu:=eD (fs:=fs) (M:=M) gp jz tC (by simp);have um:(List.map bR [v0]).length=1:=rfl;have sW:0 < List.length [v0]:=by simp
  have e9:=ot.all sW;obtain⟨b0,ER,_,dQ⟩:=e9;have n0:=(dQ 0 (by simp)).1;have m0:=(dQ 0 (by simp)).2;simp only[List.getElem_cons_zero,List.getElem_cons_succ]at n0 m0;have ha:=hi.1;simp[bA]at ha;have nr:=hF.loc;have Wb:a.toNat < f.locals.length:=by omega
  obtain⟨tl,ql,rl,vl1,aat,Bl1,Bl2,uo,abJ,Yw,ol2,ndl,_,aau,abK,abL,aav⟩:=fE.lens;have Yw:cq h1 vl1 f.locals Bl1:=Yw;obtain⟨pl,cl,rfl,_⟩:=Yw.form;have l1:rd h1 bf (off+2)=some (.slice pl (List.map bR f.locals).length cl):=bG uo (i:=2) (by omega) rfl;obtain⟨bl,pre,xx,post,tt0,fV,OG,rG,OH,zh,rfl,A1⟩:=cn.put (l:=f.locals) Yw Wb;conv=>whnf
  repeat' ((first|refine ld w1 ?_|refine ld w2 ?_|refine aq ?_|refine aj ?_|refine ptr ?_)<;>conv=>whnf)
  repeat' ((first|refine ld w1 ?_|refine ld l1 ?_|refine aO fV ?_|refine aO ER ?_|refine dK n0 ?_|refine aq ?_|refine aj ?_|refine ptr ?_)<;>conv=>whnf)
  refine z7 rG (pre++bR v0++post) (by simp[zh,bR,OH]<;>omega) (mg (by rw[OH];show 0+a.toNat*2=a.toNat*2;omega) (by rw[zh];rfl)) (λh2 fU rR=>?_);have Wc:bl≠bf:=(aau bl (by simp)).1;obtain⟨B2,kH,gP⟩:=aav h2 {f with stack:=rest,locals:=f.locals.set a.toNat v0} (.slice pl (List.map bR f.locals).length cl) aat [bl] Bl2 (by rw[fU];simp only[Heap.set,Ne.symm Wc,if_false];exact uo)
   (λx hx hn=>by rw[fU];simp only[Heap.set];rw[if_neg (λhy=>hx (by simp[hy]))])
   (A1 h2 v0 rR)
   (ol2.aG λx hx o ho=>by
    have Qh:x≠bl:=by
     rintro rfl;have:=ndl x;have:=List.count_pos_iff.2 hx;simp only[List.count_append,List.count_cons,beq_self_eq_true,if_true]at *;omega
    rw[fU];simp only[Heap.set,Qh,if_false];exact ho)
   (λx hx=>.inl hx) ndl
  conv=>whnf
  first|refine kH.ym ?_|skip
  conv=>whnf
  refine kH.jP (λh9 B9 lI lJ=>?_);conv=>whnf
  exact⟨_,(by rw[iu];rfl),B9,lI,fD.trans (gP.trans lJ)⟩
 ·have hi:=(aI (u:=u) (m:=br u f.ah) (a:=a) (b:=b) (k:=5) rfl).1 kK;obtain⟨pt,ct,rfl,_⟩:=ot.form;obtain⟨t1,q1,yp,v11,yq,w1,mz,rV,w2,_⟩:=fE.uZ;have w2:rd h1 bf (off+1)=some (.int .i64 f.pc):=w2;have gL:∀ b∈Bt,b ∉ bm::B1/\b≠bs:=λb U=>⟨(jx b U).1,(jx b U).2.1⟩
  have iu:=eD (fs:=fs) (M:=M) gp jz tC (by simp);conv=>whnf
  repeat' ((first|refine ld w1 ?_|refine ld w2 ?_|refine aq ?_|refine aj ?_|refine ptr ?_)<;>conv=>whnf)
  first|refine fE.ym ?_|skip
  conv=>whnf
  refine fE.jP (λh9 B9 lI lJ=>?_);conv=>whnf
  exact⟨_,(by rw[iu];rfl),B9,lI,fD.trans lJ⟩
 ·have hi:=(aI (u:=u) (m:=br u f.ah) (a:=a) (b:=b) (k:=6) rfl).1 kK;have pS:ws=[0]:=by simpa [cM]using me.symm
  rw[pS]at kS ez;obtain⟨v0,rfl⟩:=fG kS;obtain⟨pt,ct,rfl,_⟩:=ot.form;obtain⟨t1,q1,yp,v11,yq,w1,mz,rV,w2,_⟩:=fE.uZ;have w2:rd h1 bf (off+1)=some (.int .i64 f.pc):=w2;have gL:∀ b∈Bt,b ∉ bm::B1/\b≠bs:=λb U=>⟨(jx b U).1,(jx b U).2.1⟩
  have iu:=eD (fs:=fs) (M:=M) gp jz tC (by simp);have um:(List.map bR [v0]).length=1:=rfl;have sW:0 < List.length [v0]:=by simp
  have e9:=ot.all sW;obtain⟨b0,ER,_,dQ⟩:=e9;have n0:=(dQ 0 (by simp)).1;have m0:=(dQ 0 (by simp)).2;simp only[List.getElem_cons_zero,List.getElem_cons_succ]at n0 m0;have uY:=cn.blk (b:=b0) (by rw[ER]at ot;exact ot);conv=>whnf
  repeat' ((first|refine ld w1 ?_|refine ld w2 ?_|refine aq ?_|refine aj ?_|refine ptr ?_)<;>conv=>whnf)
  repeat' ((first|refine aO ER ?_|refine dK n0 ?_|refine aq ?_|refine aj ?_|refine ptr ?_)<;>conv=>whnf)
  have LO:rest.length < 4->gK u ⟨6,a,b⟩ [v0] M.objs {f with stack:=rest} M.said=eV M.objs {f with stack:=rest++[v0]} M.said v0:=by
   intro h;show(match di M.objs {f with stack:=rest} v0 with | .ok (_,g)=>eV M.objs g M.said v0 | .error e=>.error e)=_;rw[di,if_pos h]
  have F7:4<=rest.length->gK u ⟨6,a,b⟩ [v0] M.objs {f with stack:=rest} M.said=.error 0:=by
   intro h;show(match di M.objs {f with stack:=rest} v0 with | .ok (_,g)=>eV M.objs g M.said v0 | .error e=>.error e)=_;rw[di,if_neg (by show ¬rest.length < 4;omega)]
  refine cW (oZ h0 h1 bs bm bf off u _ fs _ _ B1 v0 fE) ?_ ?_
  ·rintro vv h2 ⟨k1,B2,kH,gP⟩;have n02:=(yo (gP.ic b0 uY.2 (gL b0 uY.1).1) 2 (0+0*2)).trans n0;conv=>whnf
   repeat' ((first|refine aO ER ?_|refine dK n02 ?_|refine aq ?_|refine aj ?_|refine ptr ?_)<;>conv=>whnf)
   refine cW (oZ h0 h2 bs bm bf off u _ fs _ _ B2 v0 kH) ?_ ?_
   ·rintro vv h3 ⟨k4,B3,LK,rT⟩;conv=>whnf
    first|refine LK.ym ?_|skip
    conv=>whnf
    refine LK.jP (λh9 B9 lI lJ=>?_);conv=>whnf
    exact⟨_,(by rw[iu,LO k1,nW k4];rfl),B9,lI,fD.trans (gP.trans (rT.trans lJ))⟩
   ·rintro c h3 ⟨k4,k5,k6⟩;exact⟨0,by rw[iu,LO k1,lK k4],k5,k6⟩
  ·rintro c h2 ⟨k1,k2,k3⟩;exact⟨0,by rw[iu,F7 k1],k2,k3⟩
 ·have hi:=(aI (u:=u) (m:=br u f.ah) (a:=a) (b:=b) (k:=7) rfl).1 kK;have pS:ws=[1,1]:=by simpa [cM]using me.symm
  rw[pS]at kS ez;obtain⟨v0,v1,rfl⟩:=sV kS;obtain⟨pt,ct,rfl,_⟩:=ot.form;obtain⟨t1,q1,yp,v11,yq,w1,mz,rV,w2,_⟩:=fE.uZ;have w2:rd h1 bf (off+1)=some (.int .i64 f.pc):=w2;have gL:∀ b∈Bt,b ∉ bm::B1/\b≠bs:=λb U=>⟨(jx b U).1,(jx b U).2.1⟩
  have iu:=eD (fs:=fs) (M:=M) gp jz tC (by simp);have um:(List.map bR [v0,v1]).length=2:=rfl;have sW:0 < List.length [v0,v1]:=by simp
  have e9:=ot.all sW;obtain⟨b0,ER,_,dQ⟩:=e9;have n0:=(dQ 0 (by simp)).1;have m0:=(dQ 0 (by simp)).2;have n1:=(dQ 1 (by simp)).1;have m1:=(dQ 1 (by simp)).2;simp only[List.getElem_cons_zero,List.getElem_cons_succ]at n0 m0 n1 m1;conv=>whnf
  repeat' ((first|refine ld w1 ?_|refine ld w2 ?_|refine aq ?_|refine aj ?_|refine ptr ?_)<;>conv=>whnf)
  repeat' ((first|refine aO ER ?_|refine ld m0 ?_|refine ld m1 ?_|refine aq ?_|refine aj ?_|refine ptr ?_)<;>conv=>whnf)
  have fY:gK u ⟨7,a,b⟩ [v0,v1] M.objs {f with stack:=rest} M.said=(if (gS a v0.n v1.n).2 then eV M.objs {f with stack:=rest} M.said ⟨false,(gS a v0.n v1.n).1⟩else .error 1):=rfl;refine aT (I8 a v0.n v1.n h1) ?_;unfold RP;conv=>whnf
  apply bY<;>intro g;all_goals conv=>whnf
  ·exact⟨1,by rw[iu,fY,g];rfl,rfl,fE.ma.pn⟩
  ·rw[g]at fY;refine cW (oZ h0 h1 bs bm bf off u _ fs _ _ B1 ⟨false,(gS a v0.n v1.n).1⟩ fE) ?_ ?_
   ·rintro vv h2 ⟨k1,B2,kH,gP⟩;conv=>whnf
    first|refine kH.ym ?_|skip
    conv=>whnf
    refine kH.jP (λh9 B9 lI lJ=>?_);conv=>whnf
    exact⟨_,(by rw[iu,fY,if_pos rfl,nW k1];rfl),B9,lI,fD.trans (gP.trans lJ)⟩
   ·rintro c h2 ⟨k1,k2,k3⟩;exact⟨0,by rw[iu,fY,if_pos rfl,lK k1],k2,k3⟩
 ·have hi:=(aI (u:=u) (m:=br u f.ah) (a:=a) (b:=b) (k:=8) rfl).1 kK;have pS:ws=[1,1]:=by simpa [cM]using me.symm
  rw[pS]at kS ez;obtain⟨v0,v1,rfl⟩:=sV kS;obtain⟨pt,ct,rfl,_⟩:=ot.form;obtain⟨t1,q1,yp,v11,yq,w1,mz,rV,w2,_⟩:=fE.uZ;have w2:rd h1 bf (off+1)=some (.int .i64 f.pc):=w2;have gL:∀ b∈Bt,b ∉ bm::B1/\b≠bs:=λb U=>⟨(jx b U).1,(jx b U).2.1⟩
  have iu:=eD (fs:=fs) (M:=M) gp jz tC (by simp);have um:(List.map bR [v0,v1]).length=2:=rfl;have sW:0 < List.length [v0,v1]:=by simp
  have e9:=ot.all sW;obtain⟨b0,ER,_,dQ⟩:=e9;have n0:=(dQ 0 (by simp)).1;have m0:=(dQ 0 (by simp)).2;have n1:=(dQ 1 (by simp)).1;have m1:=(dQ 1 (by simp)).2;simp only[List.getElem_cons_zero,List.getElem_cons_succ]at n0 m0 n1 m1;conv=>whnf
  repeat' ((first|refine ld w1 ?_|refine ld w2 ?_|refine aq ?_|refine aj ?_|refine ptr ?_)<;>conv=>whnf)
  repeat' ((first|refine aO ER ?_|refine ld m0 ?_|refine ld m1 ?_|refine aq ?_|refine aj ?_|refine ptr ?_)<;>conv=>whnf)
  have fY:gK u ⟨8,a,b⟩ [v0,v1] M.objs {f with stack:=rest} M.said=.ok (M.objs,{f with stack:=rest},M.said,decide (v0.n < v1.n)):=rfl;apply ax<;>intro g;all_goals conv=>whnf
  ·rw[decide_eq_true g]at fY;first|refine fE.ym ?_|skip
   conv=>whnf
   refine fE.jP (λh9 B9 lI lJ=>?_);conv=>whnf
   exact⟨_,(by rw[iu,fY];rfl),B9,lI,fD.trans lJ⟩
  ·rw[decide_eq_false g]at fY;first|refine fE.ym ?_|skip
   conv=>whnf
   refine fE.jP (λh9 B9 lI lJ=>?_);conv=>whnf
   exact⟨_,(by rw[iu,fY];rfl),B9,lI,fD.trans lJ⟩
 ·have hi:=(aI (u:=u) (m:=br u f.ah) (a:=a) (b:=b) (k:=9) rfl).1 kK;have pS:ws=[1,1]:=by simpa [cM]using me.symm
  rw[pS]at kS ez;obtain⟨v0,v1,rfl⟩:=sV kS;obtain⟨pt,ct,rfl,_⟩:=ot.form;obtain⟨t1,q1,yp,v11,yq,w1,mz,rV,w2,_⟩:=fE.uZ;have w2:rd h1 bf (off+1)=some (.int .i64 f.pc):=w2;have gL:∀ b∈Bt,b ∉ bm::B1/\b≠bs:=λb U=>⟨(jx b U).1,(jx b U).2.1⟩
  have iu:=eD (fs:=fs) (M:=M) gp jz tC (by simp);have um:(List.map bR [v0,v1]).length=2:=rfl;have sW:0 < List.length [v0,v1]:=by simp
  have e9:=ot.all sW;obtain⟨b0,ER,_,dQ⟩:=e9;have n0:=(dQ 0 (by simp)).1;have m0:=(dQ 0 (by simp)).2;have n1:=(dQ 1 (by simp)).1;have m1:=(dQ 1 (by simp)).2;simp only[List.getElem_cons_zero,List.getElem_cons_succ]at n0 m0 n1 m1;conv=>whnf
  repeat' ((first|refine ld w1 ?_|refine ld w2 ?_|refine aq ?_|refine aj ?_|refine ptr ?_)<;>conv=>whnf)
  repeat' ((first|refine aO ER ?_|refine ld m0 ?_|refine ld m1 ?_|refine aq ?_|refine aj ?_|refine ptr ?_)<;>conv=>whnf)
  have fY:gK u ⟨9,a,b⟩ [v0,v1] M.objs {f with stack:=rest} M.said=.ok (M.objs,{f with stack:=rest},M.said,decide (v0.n=v1.n)):=rfl;apply ax<;>intro g;all_goals conv=>whnf
  ·rw[decide_eq_true g]at fY;first|refine fE.ym ?_|skip
   conv=>whnf
   refine fE.jP (λh9 B9 lI lJ=>?_);conv=>whnf
   exact⟨_,(by rw[iu,fY];rfl),B9,lI,fD.trans lJ⟩
  ·rw[decide_eq_false g]at fY;first|refine fE.ym ?_|skip
   conv=>whnf
   refine fE.jP (λh9 B9 lI lJ=>?_);conv=>whnf
   exact⟨_,(by rw[iu,fY];rfl),B9,lI,fD.trans lJ⟩
 ·have hi:=(aI (u:=u) (m:=br u f.ah) (a:=a) (b:=b) (k:=10) rfl).1 kK;have pS:ws=[2]:=by simpa [cM]using me.symm
  rw[pS]at kS ez;obtain⟨v0,rfl⟩:=fG kS;obtain⟨pt,ct,rfl,_⟩:=ot.form;obtain⟨t1,q1,yp,v11,yq,w1,mz,rV,w2,_⟩:=fE.uZ;have w2:rd h1 bf (off+1)=some (.int .i64 f.pc):=w2;have gL:∀ b∈Bt,b ∉ bm::B1/\b≠bs:=λb U=>⟨(jx b U).1,(jx b U).2.1⟩
  have iu:=eD (fs:=fs) (M:=M) gp jz tC (by simp);have um:(List.map bR [v0]).length=1:=rfl;have sW:0 < List.length [v0]:=by simp
  have e9:=ot.all sW;obtain⟨b0,ER,_,dQ⟩:=e9;have n0:=(dQ 0 (by simp)).1;have m0:=(dQ 0 (by simp)).2;simp only[List.getElem_cons_zero,List.getElem_cons_succ]at n0 m0;conv=>whnf
  repeat' ((first|refine ld w1 ?_|refine ld w2 ?_|refine aq ?_|refine aj ?_|refine ptr ?_)<;>conv=>whnf)
  repeat' ((first|refine aO ER ?_|refine ld m0 ?_|refine aq ?_|refine aj ?_|refine ptr ?_)<;>conv=>whnf)
  have fY:gK u ⟨10,a,b⟩ [v0] M.objs {f with stack:=rest} M.said=.ok (M.objs,{f with stack:=rest},M.said,decide (v0.n=0)):=rfl;apply ax<;>intro g;all_goals conv=>whnf
  ·rw[decide_eq_true g]at fY;first|refine fE.ym ?_|skip
   conv=>whnf
   refine fE.jP (λh9 B9 lI lJ=>?_);conv=>whnf
   exact⟨_,(by rw[iu,fY];rfl),B9,lI,fD.trans lJ⟩
  ·rw[decide_eq_false g]at fY;first|refine fE.ym ?_|skip
   conv=>whnf
   refine fE.jP (λh9 B9 lI lJ=>?_);conv=>whnf
   exact⟨_,(by rw[iu,fY];rfl),B9,lI,fD.trans lJ⟩
 ·have hi:=(aI (u:=u) (m:=br u f.ah) (a:=a) (b:=b) (k:=11) rfl).1 kK;obtain⟨pt,ct,rfl,_⟩:=ot.form;obtain⟨t1,q1,yp,v11,yq,w1,mz,rV,w2,_⟩:=fE.uZ;have w2:rd h1 bf (off+1)=some (.int .i64 f.pc):=w2;have gL:∀ b∈Bt,b ∉ bm::B1/\b≠bs:=λb U=>⟨(jx b U).1,(jx b U).2.1⟩
  have iu:=eD (fs:=fs) (M:=M) gp jz tC (by simp);conv=>whnf
  repeat' ((first|refine ld w1 ?_|refine ld w2 ?_|refine aq ?_|refine aj ?_|refine ptr ?_)<;>conv=>whnf)
  first|refine fE.ym ?_|skip
  conv=>whnf
  refine fE.jP (λh9 B9 lI lJ=>?_);conv=>whnf
  exact⟨_,(by rw[iu];rfl),B9,lI,fD.trans lJ⟩
 ·have hi:=(aI (u:=u) (m:=br u f.ah) (a:=a) (b:=b) (k:=12) rfl).1 kK;have pS:ws=[]:=by simpa [cM]using me.symm
  rw[pS]at kS ez;obtain rfl:=Qf kS;obtain⟨pt,ct,rfl,_⟩:=ot.form;obtain⟨t1,q1,yp,v11,yq,w1,mz,rV,w2,_⟩:=fE.uZ;have w2:rd h1 bf (off+1)=some (.int .i64 f.pc):=w2;have gL:∀ b∈Bt,b ∉ bm::B1/\b≠bs:=λb U=>⟨(jx b U).1,(jx b U).2.1⟩
  have iu:=eD (fs:=fs) (M:=M) gp jz tC (by simp);have ES:pP u ⟨12,a,b⟩ [] M.objs.length:=⟨λhx=>absurd hx (by simp),λhx=>absurd hx (by simp),λhx=>absurd hx (by simp),λhx=>absurd hx (by simp),λhx=>absurd hx (by simp),λhx=>absurd hx (by simp),λhx=>absurd hx (by simp),D1⟩
  have yt:=hi;simp[bA]at yt;have u0:M.objs.length<=900:=by have:=hI.len;omega
  have fy:=gU h0 h1 bs bm bf off u _ fs _ _ B1 ⟨12,a,b⟩ [] _ Bt fE ot gL ok (by simp) u0 hI.objs ES (by simp;omega) (by simp) (by simp);have fY:gK u ⟨12,a,b⟩ [] M.objs {f with stack:=rest} M.said=(match bH u ⟨12,a,b⟩ [] M.objs {f with stack:=rest}with | .ok (o,g)=>.ok (o,g,M.said,false) | .error e=>.error e):=rfl;rw[fY]at iu;have sX:∀ de f2,bH u ⟨12,a,b⟩ [] M.objs {f with stack:=rest}=.ok (de,f2)->lz u fs f M=.ok {M with objs:=de,ag:=fs++[{f2 with pc:=f.pc+1}]}:=by
   intro de f2 dD;rw[iu,dD];rfl
  have mA:∀ e,bH u ⟨12,a,b⟩ [] M.objs {f with stack:=rest}=.error e->lz u fs f M=.error e:=by
   intro e dD;rw[iu,dD]
  conv=>whnf
  repeat' ((first|refine ld w1 ?_|refine ld w2 ?_|refine aq ?_|refine aj ?_|refine ptr ?_)<;>conv=>whnf)
  refine cW fy ?_ ?_
  ·rintro vv h2 ⟨de,f2,dD,B2,kH,gP⟩;have iM:=sX de f2 dD;conv=>whnf
   first|refine kH.ym ?_|skip
   conv=>whnf
   refine kH.jP (λh9 B9 lI lJ=>?_);conv=>whnf
   exact⟨_,iM,B9,lI,fD.trans (gP.trans lJ)⟩
  ·rintro c h2 ⟨k,k1,k2,k3⟩;exact⟨k,mA k k1,k2,k3⟩
theorem pT (h0 h:Heap) (bs bm bf off:Nat) (u:aU) (fs:List bU) (f:bU) (M:bZ) (B:List Nat) (a b k:Int) (hk:k=13\/k=14\/k=15\/k=16\/k=17\/k=18\/k=19\/k=20\/k=21\/k=22\/k=23\/k=24) (hS:kq h0 h bs bm bf off u (br u f.ah) fs f M B) (hu:eC u) (hI:G6 u M) (gp:¬((br u f.ah).code.length:Int)<=f.pc) (jz:(br u f.ah).code.getD f.pc.toNat dW=⟨k,a,b⟩)
  (hsend:k=21->∀(aS rest:List Vl) (c:Int),dB u ⟨k,a,b⟩ f.stack=some (aS,rest)->c < u.J.length->up u.J c a=true->0<=find u c b/\((aS.length:Int)<=(br u (find u c b)).locals/\(br u (find u c b)).locals<=3)) :
  cH prog 142 [.pointer (some ⟨bs,0,none⟩)] h (pq h0 h bm B (lz u fs f M)):=by
 have G7:f∈M.ag:=by rw[hS.ag];simp
 have hF:=hI.jy f G7;have OF:=hu.2.2.2.1 _ (ir hF.ah);have ok:=hu.1;obtain⟨EP,V9⟩:=hF.pc;have Qg:=OF.2.1.2.1;obtain⟨r1,r2,_,p,cc,q,d,CT,r9,gV,P3,p2,c2,r6,mw⟩:=hS.mp;obtain⟨t0,q0,rr0,v10,v20,_,Wa,p7,s1,_⟩:=hS.uZ;have cG:f.pc.toNat < (br u f.ah).code.length:=by omega
 have LN:(br u f.ah).code[f.pc.toNat]=⟨k,a,b⟩:=by rw[<-jz];simp[cG]
 have e:=mw.get cG;rw[LN]at e;obtain⟨bb,oo,xs,vw,e1,e2,e3,e4,e5⟩:=e;subst e2;have DZ:eG h bb (oo+f.pc.toNat*3) 3=some [.int .i64 k,.int .i64 a,.int .i64 b]:=bK hS.ma.le e1;have kK:=OF.2.1.2.2.2.1 _ (List.getElem_mem cG);rw[LN]at kK;refine outs au func142 My I2 rfl ?_;conv=>whnf
 repeat' ((first|refine ld r1 ?_|refine ld s1 ?_|refine ld r6 ?_|refine aq ?_|refine aj ?_|refine ptr ?_)<;>conv=>whnf)
 refine cy gp ?_;conv=>whnf
 repeat' ((first|refine ld r1 ?_|refine ld s1 ?_|refine ld r6 ?_|refine aO vw ?_|refine dK DZ ?_|refine aq ?_|refine aj ?_|refine ptr ?_)<;>conv=>whnf)
 refine cW (Jw h0 h bs bm bf off u _ fs f M B ⟨k,a,b⟩ hS (eH.ok hu kK) (by have:=hF.cA;omega)) ?_ ?_;rotate_left
 ·rintro c h' ⟨k1,k2,k3⟩;refine⟨0,?_,k2,k3⟩;unfold lz;simp only[if_neg gp,jz,k1]
 rintro vt h1 ⟨aS,rest,tC,B1,Bt,fE,fD,ot,jx⟩;obtain⟨ws,me,kS,ez,dZ⟩:=mq tC;have JG:rest.length<=4:=by have:=hF.cA;rw[dZ]at this;simp at this;omega
 have D1:∀ v∈aS,v.ref=true->0<=v.n/\v.n<=M.objs.length:=λv hv=>hF.vs v (by rw[dZ];simp[hv]);rcases hk with rfl|rfl|rfl|rfl|rfl|rfl|rfl|rfl|rfl|rfl|rfl|rfl
 ·have hi:=(aI (u:=u) (m:=br u f.ah) (a:=a) (b:=b) (k:=13) rfl).1 kK;have pS:ws=[1]:=by simpa [cM]using me.symm
  rw[pS]at kS ez;obtain⟨v0,rfl⟩:=fG kS;obtain⟨pt,ct,rfl,_⟩:=ot.form;obtain⟨t1,q1,yp,v11,yq,w1,mz,rV,w2,_⟩:=fE.uZ;have w2:rd h1 bf (off+1)=some (.int .i64 f.pc):=w2;have gL:∀ b∈Bt,b ∉ bm::B1/\b≠bs:=λb U=>⟨(jx b U).1,(jx b U).2.1⟩
  have iu:=eD (fs:=fs) (M:=M) gp jz tC (by simp);have ES:pP u ⟨13,a,b⟩ [v0] M.objs.length:=⟨λ_=>⟨v0,rfl⟩,λhx=>absurd hx (by simp),λhx=>absurd hx (by simp),λhx=>absurd hx (by simp),λhx=>absurd hx (by simp),λhx=>absurd hx (by simp),λhx=>absurd hx (by simp),D1⟩
  have yt:=hi;simp[bA]at yt;have u0:M.objs.length<=900:=by have:=hI.len;omega
  have fy:=gU h0 h1 bs bm bf off u _ fs _ _ B1 ⟨13,a,b⟩ [v0] _ Bt fE ot gL ok (by simp) u0 hI.objs ES (by simp) (by simp;omega) (by simp);have fY:gK u ⟨13,a,b⟩ [v0] M.objs {f with stack:=rest} M.said=(match bH u ⟨13,a,b⟩ [v0] M.objs {f with stack:=rest}with | .ok (o,g)=>.ok (o,g,M.said,false) | .error e=>.error e):=rfl;rw[fY]at iu;have sX:∀ de f2,bH u ⟨13,a,b⟩ [v0] M.objs {f with stack:=rest}=.ok (de,f2)->lz u fs f M=.ok {M with objs:=de,ag:=fs++[{f2 with pc:=f.pc+1}]}:=by
   intro de f2 dD;rw[iu,dD];rfl
  have mA:∀ e,bH u ⟨13,a,b⟩ [v0] M.objs {f with stack:=rest}=.error e->lz u fs f M=.error e:=by
   intro e dD;rw[iu,dD]
  conv=>whnf
  repeat' ((first|refine ld w1 ?_|refine ld w2 ?_|refine aq ?_|refine aj ?_|refine ptr ?_)<;>conv=>whnf)
  refine cW fy ?_ ?_
  ·rintro vv h2 ⟨de,f2,dD,B2,kH,gP⟩;have iM:=sX de f2 dD;conv=>whnf
   first|refine kH.ym ?_|skip
   conv=>whnf
   refine kH.jP (λh9 B9 lI lJ=>?_);conv=>whnf
   exact⟨_,iM,B9,lI,fD.trans (gP.trans lJ)⟩
  ·rintro c h2 ⟨k,k1,k2,k3⟩;exact⟨k,mA k k1,k2,k3⟩
 ·have hi:=(aI (u:=u) (m:=br u f.ah) (a:=a) (b:=b) (k:=14) rfl).1 kK;have pS:ws=[2]:=by simpa [cM]using me.symm
  rw[pS]at kS ez;obtain⟨v0,rfl⟩:=fG kS;have gD:v0.ref=true:=by cases hx:v0.ref with
   | true=>rfl
   | false=>simp[iU,hx]at ez
  obtain⟨pt,ct,rfl,_⟩:=ot.form;obtain⟨t1,q1,yp,v11,yq,w1,mz,rV,w2,_⟩:=fE.uZ;have w2:rd h1 bf (off+1)=some (.int .i64 f.pc):=w2;have gL:∀ b∈Bt,b ∉ bm::B1/\b≠bs:=λb U=>⟨(jx b U).1,(jx b U).2.1⟩
  have iu:=eD (fs:=fs) (M:=M) gp jz tC (by simp);have ES:pP u ⟨14,a,b⟩ [v0] M.objs.length:=⟨λhx=>absurd hx (by simp),λ_=>⟨v0,rfl,gD⟩,λhx=>absurd hx (by simp),λhx=>absurd hx (by simp),λhx=>absurd hx (by simp),λhx=>absurd hx (by simp),λhx=>absurd hx (by simp),D1⟩
  have yt:=hi;simp[bA]at yt;have u0:M.objs.length<=900:=by have:=hI.len;omega
  have fy:=gU h0 h1 bs bm bf off u _ fs _ _ B1 ⟨14,a,b⟩ [v0] _ Bt fE ot gL ok (by simp) u0 hI.objs ES (by simp) (by simp) (by simp);have fY:gK u ⟨14,a,b⟩ [v0] M.objs {f with stack:=rest} M.said=(match bH u ⟨14,a,b⟩ [v0] M.objs {f with stack:=rest}with | .ok (o,g)=>.ok (o,g,M.said,false) | .error e=>.error e):=rfl;rw[fY]at iu;have sX:∀ de f2,bH u ⟨14,a,b⟩ [v0] M.objs {f with stack:=rest}=.ok (de,f2)->lz u fs f M=.ok {M with objs:=de,ag:=fs++[{f2 with pc:=f.pc+1}]}:=by
   intro de f2 dD;rw[iu,dD];rfl
  have mA:∀ e,bH u ⟨14,a,b⟩ [v0] M.objs {f with stack:=rest}=.error e->lz u fs f M=.error e:=by
   intro e dD;rw[iu,dD]
  conv=>whnf
  repeat' ((first|refine ld w1 ?_|refine ld w2 ?_|refine aq ?_|refine aj ?_|refine ptr ?_)<;>conv=>whnf)
  refine cW fy ?_ ?_
  ·rintro vv h2 ⟨de,f2,dD,B2,kH,gP⟩;have iM:=sX de f2 dD;conv=>whnf
   first|refine kH.ym ?_|skip
   conv=>whnf
   refine kH.jP (λh9 B9 lI lJ=>?_);conv=>whnf
   exact⟨_,iM,B9,lI,fD.trans (gP.trans lJ)⟩
  ·rintro c h2 ⟨k,k1,k2,k3⟩;exact⟨k,mA k k1,k2,k3⟩
 ·have hi:=(aI (u:=u) (m:=br u f.ah) (a:=a) (b:=b) (k:=15) rfl).1 kK;have pS:ws=[2,1]:=by simpa [cM]using me.symm
  rw[pS]at kS ez;obtain⟨v0,v1,rfl⟩:=sV kS;have gD:v0.ref=true:=by cases hx:v0.ref with
   | true=>rfl
   | false=>simp[iU,hx]at ez
  obtain⟨pt,ct,rfl,_⟩:=ot.form;obtain⟨t1,q1,yp,v11,yq,w1,mz,rV,w2,_⟩:=fE.uZ;have w2:rd h1 bf (off+1)=some (.int .i64 f.pc):=w2;have gL:∀ b∈Bt,b ∉ bm::B1/\b≠bs:=λb U=>⟨(jx b U).1,(jx b U).2.1⟩
  have iu:=eD (fs:=fs) (M:=M) gp jz tC (by simp);have ES:pP u ⟨15,a,b⟩ [v0,v1] M.objs.length:=⟨λhx=>absurd hx (by simp),λhx=>absurd hx (by simp),λ_=>⟨v0,v1,rfl,gD⟩,λhx=>absurd hx (by simp),λhx=>absurd hx (by simp),λhx=>absurd hx (by simp),λhx=>absurd hx (by simp),D1⟩
  have yt:=hi;simp[bA]at yt;have u0:M.objs.length<=900:=by have:=hI.len;omega
  have fy:=gU h0 h1 bs bm bf off u _ fs _ _ B1 ⟨15,a,b⟩ [v0,v1] _ Bt fE ot gL ok (by simp) u0 hI.objs ES (by simp) (by simp) (by simp);have fY:gK u ⟨15,a,b⟩ [v0,v1] M.objs {f with stack:=rest} M.said=(match bH u ⟨15,a,b⟩ [v0,v1] M.objs {f with stack:=rest}with | .ok (o,g)=>.ok (o,g,M.said,false) | .error e=>.error e):=rfl;rw[fY]at iu;have sX:∀ de f2,bH u ⟨15,a,b⟩ [v0,v1] M.objs {f with stack:=rest}=.ok (de,f2)->lz u fs f M=.ok {M with objs:=de,ag:=fs++[{f2 with pc:=f.pc+1}]}:=by
   intro de f2 dD;rw[iu,dD];rfl
  have mA:∀ e,bH u ⟨15,a,b⟩ [v0,v1] M.objs {f with stack:=rest}=.error e->lz u fs f M=.error e:=by
   intro e dD;rw[iu,dD]
  conv=>whnf
  repeat' ((first|refine ld w1 ?_|refine ld w2 ?_|refine aq ?_|refine aj ?_|refine ptr ?_)<;>conv=>whnf)
  refine cW fy ?_ ?_
  ·rintro vv h2 ⟨de,f2,dD,B2,kH,gP⟩;have iM:=sX de f2 dD;conv=>whnf
   first|refine kH.ym ?_|skip
   conv=>whnf
   refine kH.jP (λh9 B9 lI lJ=>?_);conv=>whnf
   exact⟨_,iM,B9,lI,fD.trans (gP.trans lJ)⟩
  ·rintro c h2 ⟨k,k1,k2,k3⟩;exact⟨k,mA k k1,k2,k3⟩
 ·have hi:=(aI (u:=u) (m:=br u f.ah) (a:=a) (b:=b) (k:=16) rfl).1 kK;have pS:ws=[2,1,0]:=by simpa [cM]using me.symm
  rw[pS]at kS ez;obtain⟨v0,v1,v2,rfl⟩:=C5 kS;have gD:v0.ref=true:=by cases hx:v0.ref with
   | true=>rfl
   | false=>simp[iU,hx]at ez
  obtain⟨pt,ct,rfl,_⟩:=ot.form;obtain⟨t1,q1,yp,v11,yq,w1,mz,rV,w2,_⟩:=fE.uZ;have w2:rd h1 bf (off+1)=some (.int .i64 f.pc):=w2;have gL:∀ b∈Bt,b ∉ bm::B1/\b≠bs:=λb U=>⟨(jx b U).1,(jx b U).2.1⟩
  have iu:=eD (fs:=fs) (M:=M) gp jz tC (by simp);have ES:pP u ⟨16,a,b⟩ [v0,v1,v2] M.objs.length:=⟨λhx=>absurd hx (by simp),λhx=>absurd hx (by simp),λhx=>absurd hx (by simp),λ_=>⟨v0,v1,v2,rfl,gD⟩,λhx=>absurd hx (by simp),λhx=>absurd hx (by simp),λhx=>absurd hx (by simp),D1⟩
  have yt:=hi;simp[bA]at yt;have u0:M.objs.length<=900:=by have:=hI.len;omega
  have fy:=gU h0 h1 bs bm bf off u _ fs _ _ B1 ⟨16,a,b⟩ [v0,v1,v2] _ Bt fE ot gL ok (by simp) u0 hI.objs ES (by simp) (by simp) (by simp);have fY:gK u ⟨16,a,b⟩ [v0,v1,v2] M.objs {f with stack:=rest} M.said=(match bH u ⟨16,a,b⟩ [v0,v1,v2] M.objs {f with stack:=rest}with | .ok (o,g)=>.ok (o,g,M.said,false) | .error e=>.error e):=rfl;rw[fY]at iu;have sX:∀ de f2,bH u ⟨16,a,b⟩ [v0,v1,v2] M.objs {f with stack:=rest}=.ok (de,f2)->lz u fs f M=.ok {M with objs:=de,ag:=fs++[{f2 with pc:=f.pc+1}]}:=by
   intro de f2 dD;rw[iu,dD];rfl
  have mA:∀ e,bH u ⟨16,a,b⟩ [v0,v1,v2] M.objs {f with stack:=rest}=.error e->lz u fs f M=.error e:=by
   intro e dD;rw[iu,dD]
  conv=>whnf
  repeat' ((first|refine ld w1 ?_|refine ld w2 ?_|refine aq ?_|refine aj ?_|refine ptr ?_)<;>conv=>whnf)
  refine cW fy ?_ ?_
  ·rintro vv h2 ⟨de,f2,dD,B2,kH,gP⟩;have iM:=sX de f2 dD;conv=>whnf
   first|refine kH.ym ?_|skip
   conv=>whnf
   refine kH.jP (λh9 B9 lI lJ=>?_);conv=>whnf
   exact⟨_,iM,B9,lI,fD.trans (gP.trans lJ)⟩
  ·rintro c h2 ⟨k,k1,k2,k3⟩;exact⟨k,mA k k1,k2,k3⟩
 ·have hi:=(aI (u:=u) (m:=br u f.ah) (a:=a) (b:=b) (k:=17) rfl).1 kK;have pS:ws=[2]:=by simpa [cM]using me.symm
  rw[pS]at kS ez;obtain⟨v0,rfl⟩:=fG kS;have gD:v0.ref=true:=by cases hx:v0.ref with
   | true=>rfl
   | false=>simp[iU,hx]at ez
  obtain⟨pt,ct,rfl,_⟩:=ot.form;obtain⟨t1,q1,yp,v11,yq,w1,mz,rV,w2,_⟩:=fE.uZ;have w2:rd h1 bf (off+1)=some (.int .i64 f.pc):=w2;have gL:∀ b∈Bt,b ∉ bm::B1/\b≠bs:=λb U=>⟨(jx b U).1,(jx b U).2.1⟩
  have iu:=eD (fs:=fs) (M:=M) gp jz tC (by simp);have ES:pP u ⟨17,a,b⟩ [v0] M.objs.length:=⟨λhx=>absurd hx (by simp),λhx=>absurd hx (by simp),λhx=>absurd hx (by simp),λhx=>absurd hx (by simp),λ_=>⟨v0,rfl,gD⟩,λhx=>absurd hx (by simp),λhx=>absurd hx (by simp),D1⟩
  have yt:=hi;simp[bA]at yt;have u0:M.objs.length<=900:=by have:=hI.len;omega
  have fy:=gU h0 h1 bs bm bf off u _ fs _ _ B1 ⟨17,a,b⟩ [v0] _ Bt fE ot gL ok (by simp) u0 hI.objs ES (by simp;omega) (by simp) (by simp;omega);have fY:gK u ⟨17,a,b⟩ [v0] M.objs {f with stack:=rest} M.said=(match bH u ⟨17,a,b⟩ [v0] M.objs {f with stack:=rest}with | .ok (o,g)=>.ok (o,g,M.said,false) | .error e=>.error e):=rfl;rw[fY]at iu;have sX:∀ de f2,bH u ⟨17,a,b⟩ [v0] M.objs {f with stack:=rest}=.ok (de,f2)->lz u fs f M=.ok {M with objs:=de,ag:=fs++[{f2 with pc:=f.pc+1}]}:=by
   intro de f2 dD;rw[iu,dD];rfl
  have mA:∀ e,bH u ⟨17,a,b⟩ [v0] M.objs {f with stack:=rest}=.error e->lz u fs f M=.error e:=by
   intro e dD;rw[iu,dD]
  conv=>whnf
  repeat' ((first|refine ld w1 ?_|refine ld w2 ?_|refine aq ?_|refine aj ?_|refine ptr ?_)<;>conv=>whnf)
  refine cW fy ?_ ?_
  ·rintro vv h2 ⟨de,f2,dD,B2,kH,gP⟩;have iM:=sX de f2 dD;conv=>whnf
   first|refine kH.ym ?_|skip
   conv=>whnf
   refine kH.jP (λh9 B9 lI lJ=>?_);conv=>whnf
   exact⟨_,iM,B9,lI,fD.trans (gP.trans lJ)⟩
  ·rintro c h2 ⟨k,k1,k2,k3⟩;exact⟨k,mA k k1,k2,k3⟩
 ·have hi:=(aI (u:=u) (m:=br u f.ah) (a:=a) (b:=b) (k:=18) rfl).1 kK;have pS:ws=[2,0]:=by simpa [cM]using me.symm
  rw[pS]at kS ez;obtain⟨v0,v1,rfl⟩:=sV kS;have gD:v0.ref=true:=by cases hx:v0.ref with
   | true=>rfl
   | false=>simp[iU,hx]at ez
  obtain⟨pt,ct,rfl,_⟩:=ot.form;obtain⟨t1,q1,yp,v11,yq,w1,mz,rV,w2,_⟩:=fE.uZ;have w2:rd h1 bf (off+1)=some (.int .i64 f.pc):=w2;have gL:∀ b∈Bt,b ∉ bm::B1/\b≠bs:=λb U=>⟨(jx b U).1,(jx b U).2.1⟩
  have iu:=eD (fs:=fs) (M:=M) gp jz tC (by simp);have ES:pP u ⟨18,a,b⟩ [v0,v1] M.objs.length:=⟨λhx=>absurd hx (by simp),λhx=>absurd hx (by simp),λhx=>absurd hx (by simp),λhx=>absurd hx (by simp),λhx=>absurd hx (by simp),λ_=>⟨v0,v1,rfl,gD⟩,λhx=>absurd hx (by simp),D1⟩
  have yt:=hi;simp[bA]at yt;have u0:M.objs.length<=900:=by have:=hI.len;omega
  have fy:=gU h0 h1 bs bm bf off u _ fs _ _ B1 ⟨18,a,b⟩ [v0,v1] _ Bt fE ot gL ok (by simp) u0 hI.objs ES (by simp;omega) (by simp) (by simp;omega);have fY:gK u ⟨18,a,b⟩ [v0,v1] M.objs {f with stack:=rest} M.said=(match bH u ⟨18,a,b⟩ [v0,v1] M.objs {f with stack:=rest}with | .ok (o,g)=>.ok (o,g,M.said,false) | .error e=>.error e):=rfl;rw[fY]at iu;have sX:∀ de f2,bH u ⟨18,a,b⟩ [v0,v1] M.objs {f with stack:=rest}=.ok (de,f2)->lz u fs f M=.ok {M with objs:=de,ag:=fs++[{f2 with pc:=f.pc+1}]}:=by
   intro de f2 dD;rw[iu,dD];rfl
  have mA:∀ e,bH u ⟨18,a,b⟩ [v0,v1] M.objs {f with stack:=rest}=.error e->lz u fs f M=.error e:=by
   intro e dD;rw[iu,dD]
  conv=>whnf
  repeat' ((first|refine ld w1 ?_|refine ld w2 ?_|refine aq ?_|refine aj ?_|refine ptr ?_)<;>conv=>whnf)
  refine cW fy ?_ ?_
  ·rintro vv h2 ⟨de,f2,dD,B2,kH,gP⟩;have iM:=sX de f2 dD;conv=>whnf
   first|refine kH.ym ?_|skip
   conv=>whnf
   refine kH.jP (λh9 B9 lI lJ=>?_);conv=>whnf
   exact⟨_,iM,B9,lI,fD.trans (gP.trans lJ)⟩
  ·rintro c h2 ⟨k,k1,k2,k3⟩;exact⟨k,mA k k1,k2,k3⟩
 ·have hi:=(aI (u:=u) (m:=br u f.ah) (a:=a) (b:=b) (k:=19) rfl).1 kK;have pS:ws=[2]:=by simpa [cM]using me.symm
  rw[pS]at kS ez;obtain⟨v0,rfl⟩:=fG kS;have gD:v0.ref=true:=by cases hx:v0.ref with
   | true=>rfl
   | false=>simp[iU,hx]at ez
  obtain⟨pt,ct,rfl,_⟩:=ot.form;obtain⟨t1,q1,yp,v11,yq,w1,mz,rV,w2,_⟩:=fE.uZ;have w2:rd h1 bf (off+1)=some (.int .i64 f.pc):=w2;have gL:∀ b∈Bt,b ∉ bm::B1/\b≠bs:=λb U=>⟨(jx b U).1,(jx b U).2.1⟩
  have iu:=eD (fs:=fs) (M:=M) gp jz tC (by simp);have ES:pP u ⟨19,a,b⟩ [v0] M.objs.length:=⟨λhx=>absurd hx (by simp),λhx=>absurd hx (by simp),λhx=>absurd hx (by simp),λhx=>absurd hx (by simp),λhx=>absurd hx (by simp),λhx=>absurd hx (by simp),λ_=>⟨v0,rfl,gD⟩,D1⟩
  have yt:=hi;simp[bA]at yt;have u0:M.objs.length<=900:=by have:=hI.len;omega
  have fy:=gU h0 h1 bs bm bf off u _ fs _ _ B1 ⟨19,a,b⟩ [v0] _ Bt fE ot gL ok (by simp) u0 hI.objs ES (by simp;omega) (by simp) (by simp);have fY:gK u ⟨19,a,b⟩ [v0] M.objs {f with stack:=rest} M.said=(match bH u ⟨19,a,b⟩ [v0] M.objs {f with stack:=rest}with | .ok (o,g)=>.ok (o,g,M.said,false) | .error e=>.error e):=rfl;rw[fY]at iu;have sX:∀ de f2,bH u ⟨19,a,b⟩ [v0] M.objs {f with stack:=rest}=.ok (de,f2)->lz u fs f M=.ok {M with objs:=de,ag:=fs++[{f2 with pc:=f.pc+1}]}:=by
   intro de f2 dD;rw[iu,dD];rfl
  have mA:∀ e,bH u ⟨19,a,b⟩ [v0] M.objs {f with stack:=rest}=.error e->lz u fs f M=.error e:=by
   intro e dD;rw[iu,dD]
  conv=>whnf
  repeat' ((first|refine ld w1 ?_|refine ld w2 ?_|refine aq ?_|refine aj ?_|refine ptr ?_)<;>conv=>whnf)
  refine cW fy ?_ ?_
  ·rintro vv h2 ⟨de,f2,dD,B2,kH,gP⟩;have iM:=sX de f2 dD;conv=>whnf
   first|refine kH.ym ?_|skip
   conv=>whnf
   refine kH.jP (λh9 B9 lI lJ=>?_);conv=>whnf
   exact⟨_,iM,B9,lI,fD.trans (gP.trans lJ)⟩
  ·rintro c h2 ⟨k,k1,k2,k3⟩;exact⟨k,mA k k1,k2,k3⟩
 ·have hi:=(aI (u:=u) (m:=br u f.ah) (a:=a) (b:=b) (k:=20) rfl).1 kK;have pS:ws=List.replicate (br u a).args.length 0:=by simpa [cM]using me.symm
  obtain⟨pt,ct,rfl,_⟩:=ot.form;obtain⟨t1,q1,yp,v11,yq,w1,mz,rV,w2,_⟩:=fE.uZ;have w2:rd h1 bf (off+1)=some (.int .i64 f.pc):=w2;have gL:∀ b∈Bt,b ∉ bm::B1/\b≠bs:=λb U=>⟨(jx b U).1,(jx b U).2.1⟩
  have mB:=rI (fs:=fs) (M:=M) gp jz tC (by simp);have yt:=hi.1;simp[bA]at yt;have Qi:=(hu.2.2.2.1 _ (ir yt.1)).1;have nr:(aS.length:Int)<=(br u a).locals/\(br u a).locals<=3:=by
   have e1:=Qi.2.2.2.2.1;have e2:=Qi.2.2.2.2.2;have e3:(br u a).args.length<=(bX (br u a)).length:=by simp[bX]
   rw[pS]at kS;simp at kS;omega
  have yu:=hS.ag;have ET:(fs++[{f with stack:=rest}]).length<=900:=by have:=hI.nf;rw[yu]at this;simp at this ⊢;omega
  have sU:∀(g:bU),g∈fs++[{f with stack:=rest}]->(0<=g.ah/\g.ah < u.methods.length)/\0<=g.pc/\g.pc<=1000:=by
   intro g hg;rcases List.mem_append.1 hg with hg|hg
   ·have hG:=hI.jy g (by rw[yu];simp[hg]);have h12:=(hu.2.2.2.1 _ (ir hG.ah)).2.1.2.1;have:=hG.pc;exact⟨hG.ah,this.1,by omega⟩
   ·rw[List.mem_singleton.1 hg];exact⟨hF.ah,EP,by show f.pc<=1000;omega⟩
  have u0:M.objs.length<=900:=by have:=hI.len;omega
  have fy:=rH h0 h1 bs bm bf off u _ fs _ _ B1 ⟨20,a,b⟩ aS _ Bt fE ot gL ok (by simp) u0 ET hI.objs D1 (λ_=>⟨yt.1,nr⟩) (by simp) (by simp) (by simp) (by simp) sU;conv=>whnf
  repeat' ((first|refine ld w1 ?_|refine ld w2 ?_|refine aq ?_|refine aj ?_|refine ptr ?_)<;>conv=>whnf)
  refine cW fy ?_ ?_
  ·rintro vv h2 hh;have eZ:=pq.trans fD hh;rw[<-mB]at eZ;conv=>whnf
   exact eZ
  ·rintro c h2 hh;have eZ:=pq.trans fD hh;rw[<-mB]at eZ;exact eZ
 ·have hi:=(aI (u:=u) (m:=br u f.ah) (a:=a) (b:=b) (k:=21) rfl).1 kK;have hsend:=hsend rfl;obtain⟨pt,ct,rfl,_⟩:=ot.form;obtain⟨t1,q1,yp,v11,yq,w1,mz,rV,w2,_⟩:=fE.uZ;have w2:rd h1 bf (off+1)=some (.int .i64 f.pc):=w2;have gL:∀ b∈Bt,b ∉ bm::B1/\b≠bs:=λb U=>⟨(jx b U).1,(jx b U).2.1⟩
  have mB:=rI (fs:=fs) (M:=M) gp jz tC (by simp);have aaw:∃ v0 rr,aS=v0::rr/\v0.ref=true:=by
   simp[cM]at me;obtain⟨_,rfl⟩:=me;match aS,kS,ez with
   | v0::rr,_,ez =>
    refine⟨v0,rr,rfl,?_⟩;cases hx:v0.ref with
    | true=>rfl
    | false=>simp[iU,hx]at ez
  have yu:=hS.ag;have ET:(fs++[{f with stack:=rest}]).length<=900:=by have:=hI.nf;rw[yu]at this;simp at this ⊢;omega
  have sU:∀(g:bU),g∈fs++[{f with stack:=rest}]->(0<=g.ah/\g.ah < u.methods.length)/\0<=g.pc/\g.pc<=1000:=by
   intro g hg;rcases List.mem_append.1 hg with hg|hg
   ·have hG:=hI.jy g (by rw[yu];simp[hg]);have h12:=(hu.2.2.2.1 _ (ir hG.ah)).2.1.2.1;have:=hG.pc;exact⟨hG.ah,this.1,by omega⟩
   ·rw[List.mem_singleton.1 hg];exact⟨hF.ah,EP,by show f.pc<=1000;omega⟩
  have u0:M.objs.length<=900:=by have:=hI.len;omega
  have fy:=rH h0 h1 bs bm bf off u _ fs _ _ B1 ⟨21,a,b⟩ aS _ Bt fE ot gL ok (by simp) u0 ET hI.objs D1 (by simp) (λ_=>aaw) (λ_ c hc hu=>hsend aS rest c tC hc hu) (by simp) (by simp) sU;conv=>whnf
  repeat' ((first|refine ld w1 ?_|refine ld w2 ?_|refine aq ?_|refine aj ?_|refine ptr ?_)<;>conv=>whnf)
  refine cW fy ?_ ?_
  ·rintro vv h2 hh;have eZ:=pq.trans fD hh;rw[<-mB]at eZ;conv=>whnf
   exact eZ
  ·rintro c h2 hh;have eZ:=pq.trans fD hh;rw[<-mB]at eZ;exact eZ
 ·have hi:=(aI (u:=u) (m:=br u f.ah) (a:=a) (b:=b) (k:=22) rfl).1 kK;have pS:ws=[0]:=by simpa [cM]using me.symm
  rw[pS]at kS ez;obtain⟨v0,rfl⟩:=fG kS;obtain⟨pt,ct,rfl,_⟩:=ot.form;obtain⟨t1,q1,yp,v11,yq,w1,mz,rV,w2,_⟩:=fE.uZ;have w2:rd h1 bf (off+1)=some (.int .i64 f.pc):=w2;have gL:∀ b∈Bt,b ∉ bm::B1/\b≠bs:=λb U=>⟨(jx b U).1,(jx b U).2.1⟩
  have mB:=rI (fs:=fs) (M:=M) gp jz tC (by simp);have yu:=hS.ag;have ET:(fs++[{f with stack:=rest}]).length<=900:=by have:=hI.nf;rw[yu]at this;simp at this ⊢;omega
  have sU:∀(g:bU),g∈fs++[{f with stack:=rest}]->(0<=g.ah/\g.ah < u.methods.length)/\0<=g.pc/\g.pc<=1000:=by
   intro g hg;rcases List.mem_append.1 hg with hg|hg
   ·have hG:=hI.jy g (by rw[yu];simp[hg]);have h12:=(hu.2.2.2.1 _ (ir hG.ah)).2.1.2.1;have:=hG.pc;exact⟨hG.ah,this.1,by omega⟩
   ·rw[List.mem_singleton.1 hg];exact⟨hF.ah,EP,by show f.pc<=1000;omega⟩
  have u0:M.objs.length<=900:=by have:=hI.len;omega
  have fy:=rH h0 h1 bs bm bf off u _ fs _ _ B1 ⟨22,a,b⟩ [v0] _ Bt fE ot gL ok (by simp) u0 ET hI.objs D1 (by simp) (by simp) (by simp) (λ_=>⟨v0,rfl⟩) (by simp) sU;conv=>whnf
  repeat' ((first|refine ld w1 ?_|refine ld w2 ?_|refine aq ?_|refine aj ?_|refine ptr ?_)<;>conv=>whnf)
  refine cW fy ?_ ?_
  ·rintro vv h2 hh;have eZ:=pq.trans fD hh;rw[<-mB]at eZ;conv=>whnf
   exact eZ
  ·rintro c h2 hh;have eZ:=pq.trans fD hh;rw[<-mB]at eZ;exact eZ
 ·have hi:=(aI (u:=u) (m:=br u f.ah) (a:=a) (b:=b) (k:=23) rfl).1 kK;have pS:ws=[2]:=by simpa [cM]using me.symm
  rw[pS]at kS ez;obtain⟨v0,rfl⟩:=fG kS;have gD:v0.ref=true:=by cases hx:v0.ref with
   | true=>rfl
   | false=>simp[iU,hx]at ez
  obtain⟨pt,ct,rfl,_⟩:=ot.form;obtain⟨t1,q1,yp,v11,yq,w1,mz,rV,w2,_⟩:=fE.uZ;have w2:rd h1 bf (off+1)=some (.int .i64 f.pc):=w2;have gL:∀ b∈Bt,b ∉ bm::B1/\b≠bs:=λb U=>⟨(jx b U).1,(jx b U).2.1⟩
  have mB:=rI (fs:=fs) (M:=M) gp jz tC (by simp);have yu:=hS.ag;have ET:(fs++[{f with stack:=rest}]).length<=900:=by have:=hI.nf;rw[yu]at this;simp at this ⊢;omega
  have sU:∀(g:bU),g∈fs++[{f with stack:=rest}]->(0<=g.ah/\g.ah < u.methods.length)/\0<=g.pc/\g.pc<=1000:=by
   intro g hg;rcases List.mem_append.1 hg with hg|hg
   ·have hG:=hI.jy g (by rw[yu];simp[hg]);have h12:=(hu.2.2.2.1 _ (ir hG.ah)).2.1.2.1;have:=hG.pc;exact⟨hG.ah,this.1,by omega⟩
   ·rw[List.mem_singleton.1 hg];exact⟨hF.ah,EP,by show f.pc<=1000;omega⟩
  have u0:M.objs.length<=900:=by have:=hI.len;omega
  have fy:=rH h0 h1 bs bm bf off u _ fs _ _ B1 ⟨23,a,b⟩ [v0] _ Bt fE ot gL ok (by simp) u0 ET hI.objs D1 (by simp) (by simp) (by simp) (by simp) (λ_=>⟨v0,rfl,gD⟩) sU;conv=>whnf
  repeat' ((first|refine ld w1 ?_|refine ld w2 ?_|refine aq ?_|refine aj ?_|refine ptr ?_)<;>conv=>whnf)
  refine cW fy ?_ ?_
  ·rintro vv h2 hh;have eZ:=pq.trans fD hh;rw[<-mB]at eZ;conv=>whnf
   exact eZ
  ·rintro c h2 hh;have eZ:=pq.trans fD hh;rw[<-mB]at eZ;exact eZ
 ·have hi:=(aI (u:=u) (m:=br u f.ah) (a:=a) (b:=b) (k:=24) rfl).1 kK;have pS:ws=[1]:=by simpa [cM]using me.symm
  rw[pS]at kS ez;obtain⟨v0,rfl⟩:=fG kS;obtain⟨pt,ct,rfl,_⟩:=ot.form;obtain⟨t1,q1,yp,v11,yq,w1,mz,rV,w2,_⟩:=fE.uZ;have w2:rd h1 bf (off+1)=some (.int .i64 f.pc):=w2;have gL:∀ b∈Bt,b ∉ bm::B1/\b≠bs:=λb U=>⟨(jx b U).1,(jx b U).2.1⟩
  have iu:=eD (fs:=fs) (M:=M) gp jz tC (by simp);have um:(List.map bR [v0]).length=1:=rfl;have sW:0 < List.length [v0]:=by simp
  have e9:=ot.all sW;obtain⟨b0,ER,_,dQ⟩:=e9;have n0:=(dQ 0 (by simp)).1;have m0:=(dQ 0 (by simp)).2;simp only[List.getElem_cons_zero,List.getElem_cons_succ]at n0 m0;have hmp:=fE.mp.2.1;obtain⟨tb,ps,cs,vo,vf,iq,grow⟩:=fE.ma.OA (by have:=hI.said;show M.said.length<=1000;omega);have Wd:rd h1 bm 2=some (.slice ps M.said.length cs):=bG iq (i:=2) rfl rfl;have yj:h1 bs≠none:=by
   intro hx;unfold rd at w1;rw[hx]at w1;cases w1
  have eU:=fE.out;conv=>whnf
  repeat' ((first|refine ld w1 ?_|refine ld w2 ?_|refine aq ?_|refine aj ?_|refine ptr ?_)<;>conv=>whnf)
  repeat' ((first|exact trivial|refine ld hmp ?_|refine ld Wd ?_|apply And.intro|refine aO ER ?_|refine ld m0 ?_|refine aq ?_)<;>conv=>whnf)
  all_goals
   refine grow v0.n [] _ _ ⟨rfl,rfl⟩ (λ_=>by simp) (by simp) rfl rfl rfl rfl (by simp) ?_;rintro p' c' h2 e1 e2 e3 ⟨B2,LM,rT⟩;have aax:rd h2 bs 11=some (.pointer (some ⟨bm,0,none⟩)):=by
    unfold rd at hmp ⊢;rw[e2 bs (λhx=>eU (by simp[hx])) (by simp) yj];exact hmp
   have rU:=e1.trans iq;conv=>whnf
   (try refine ld aax ?_)
   conv=>whnf
   refine kJ rU (i:=2) (aB vo vf (.slice p' (M.said.length+1) c') {M with ag:=fs++[{f with stack:=rest}]}) rfl (by simp[aB]) rfl (λh3 jj JD=>?_);have aay:bs≠bm:=λhx=>eU (by simp[hx]);have aaz:gz h0 h3 bm [] [] {M with ag:=fs++[{f with stack:=rest}],said:=M.said++[v0.n]} B2:=by rw[jj];exact LM
   have LK:=fE.move (h':=h3) aaz rfl (by rw[jj];simp only[Heap.set,aay,if_false];exact e2 bs (λhx=>eU (by simp[hx])) (by simp) yj)
    (by
     have z1:rd h3 bm 1=some vf:=bG JD (i:=1) rfl rfl;have z2:rd h1 bm 1=some vf:=bG iq (i:=1) rfl rfl;rw[z1,z2])
    (λhx=>by
     rcases rT.new bs hx with hy|hy
     ·exact eU (by simpa using hy)
     ·exact yj hy)
   have zj:Ev h1 h3 (bm::B1) (bm::B2):=by rw[jj];simpa using rT
   conv=>whnf
   first|refine LK.ym ?_|skip
   conv=>whnf
   refine LK.jP (λh9 B9 lI lJ=>?_);conv=>whnf
   exact⟨_,(by rw[iu];rfl),B9,lI,fD.trans (zj.trans lJ)⟩
set_option maxHeartbeats 4000000
def Bb (u:aU) (f:bU):Prop:=∀(x:dX) (aS rest:List Vl) (c:Int),x∈(br u f.ah).code->x.kind=21->dB u x f.stack=some (aS,rest)->c < u.J.length->up u.J c x.a=true->0<=find u c x.b/\((aS.length:Int)<=(br u (find u c x.b)).locals/\(br u (find u c x.b)).locals<=3)
theorem aaA (h0 h:Heap) (bs bm bf off:Nat) (u:aU) (fs:List bU) (f:bU) (M:bZ) (B:List Nat) (hS:kq h0 h bs bm bf off u (br u f.ah) fs f M B) (hu:eC u) (hI:G6 u M) (hsend:Bb u f) :
  cH prog 142 [.pointer (some ⟨bs,0,none⟩)] h (pq h0 h bm B (lz u fs f M)):=by
 by_cases gp:((br u f.ah).code.length:Int)<=f.pc
 ·obtain⟨r1,r2,_,p,cc,q,d,CT,r9,gV,P3,p2,c2,r6,mw⟩:=hS.mp;obtain⟨t0,q0,rr0,v10,v20,_,Wa,p7,s1,_⟩:=hS.uZ;refine outs au func142 My I2 rfl ?_;conv=>whnf
  repeat' ((first|refine ld r1 ?_|refine ld s1 ?_|refine ld r6 ?_|refine aq ?_|refine aj ?_|refine ptr ?_)<;>conv=>whnf)
  refine fX gp ?_;conv=>whnf
  exact⟨0,by unfold lz;rw[if_pos gp],rfl,hS.ma.pn⟩
 have G7:f∈M.ag:=by rw[hS.ag];simp
 have hF:=hI.jy f G7;have OF:=hu.2.2.2.1 _ (ir hF.ah);obtain⟨EP,V9⟩:=hF.pc;have cG:f.pc.toNat < (br u f.ah).code.length:=by omega
 have II:(br u f.ah).code[f.pc.toNat]∈(br u f.ah).code:=List.getElem_mem _;have kK:=OF.2.1.2.2.2.1 _ II;have jz:(br u f.ah).code.getD f.pc.toNat dW=(br u f.ah).code[f.pc.toNat]:=by simp[cG]
 generalize (br u f.ah).code[f.pc.toNat]=x at II kK jz;obtain⟨kind,a,b⟩:=x;cases hw:sx kind with
 | none=>exact absurd kK (by rintro⟨_,_,hx,_⟩;rw[hw]at hx;cases hx)
 | some w =>
 obtain⟨wa,wb⟩:=w;have dy:=vD hw;simp only[jR,eB,List.mem_cons,List.not_mem_nil,or_false,Prod.mk.injEq]at dy;rcases dy with ⟨rfl,_⟩|⟨rfl,_⟩|⟨rfl,_⟩|⟨rfl,_⟩|⟨rfl,_⟩|⟨rfl,_⟩|⟨rfl,_⟩|⟨rfl,_⟩|⟨rfl,_⟩|⟨rfl,_⟩|⟨rfl,_⟩|⟨rfl,_⟩|⟨rfl,_⟩|⟨rfl,_⟩|⟨rfl,_⟩|⟨rfl,_⟩|⟨rfl,_⟩|⟨rfl,_⟩|⟨rfl,_⟩|⟨rfl,_⟩|⟨rfl,_⟩|⟨rfl,_⟩|⟨rfl,_⟩|⟨rfl,_⟩
 ·exact pR h0 h bs bm bf off u fs f M B a b 1 (by simp) hS hu hI gp jz
 ·exact pR h0 h bs bm bf off u fs f M B a b 2 (by simp) hS hu hI gp jz
 ·exact pR h0 h bs bm bf off u fs f M B a b 3 (by simp) hS hu hI gp jz
 ·exact pR h0 h bs bm bf off u fs f M B a b 4 (by simp) hS hu hI gp jz
 ·exact pR h0 h bs bm bf off u fs f M B a b 5 (by simp) hS hu hI gp jz
 ·exact pR h0 h bs bm bf off u fs f M B a b 6 (by simp) hS hu hI gp jz
 ·exact pR h0 h bs bm bf off u fs f M B a b 7 (by simp) hS hu hI gp jz
 ·exact pR h0 h bs bm bf off u fs f M B a b 8 (by simp) hS hu hI gp jz
 ·exact pR h0 h bs bm bf off u fs f M B a b 9 (by simp) hS hu hI gp jz
 ·exact pR h0 h bs bm bf off u fs f M B a b 10 (by simp) hS hu hI gp jz
 ·exact pR h0 h bs bm bf off u fs f M B a b 11 (by simp) hS hu hI gp jz
 ·exact pR h0 h bs bm bf off u fs f M B a b 12 (by simp) hS hu hI gp jz
 ·exact pT h0 h bs bm bf off u fs f M B a b 13 (by simp) hS hu hI gp jz (λh=>absurd h (by decide))
 ·exact pT h0 h bs bm bf off u fs f M B a b 14 (by simp) hS hu hI gp jz (λh=>absurd h (by decide))
 ·exact pT h0 h bs bm bf off u fs f M B a b 15 (by simp) hS hu hI gp jz (λh=>absurd h (by decide))
 ·exact pT h0 h bs bm bf off u fs f M B a b 16 (by simp) hS hu hI gp jz (λh=>absurd h (by decide))
 ·exact pT h0 h bs bm bf off u fs f M B a b 17 (by simp) hS hu hI gp jz (λh=>absurd h (by decide))
 ·exact pT h0 h bs bm bf off u fs f M B a b 18 (by simp) hS hu hI gp jz (λh=>absurd h (by decide))
 ·exact pT h0 h bs bm bf off u fs f M B a b 19 (by simp) hS hu hI gp jz (λh=>absurd h (by decide))
 ·exact pT h0 h bs bm bf off u fs f M B a b 20 (by simp) hS hu hI gp jz (λh=>absurd h (by decide))
 ·exact pT h0 h bs bm bf off u fs f M B a b 21 (by simp) hS hu hI gp jz (λ_=>λaS rest c h1 h2 h3=>hsend ⟨21,a,b⟩ aS rest c II rfl h1 h2 h3)
 ·exact pT h0 h bs bm bf off u fs f M B a b 22 (by simp) hS hu hI gp jz (λh=>absurd h (by decide))
 ·exact pT h0 h bs bm bf off u fs f M B a b 23 (by simp) hS hu hI gp jz (λh=>absurd h (by decide))
 ·exact pT h0 h bs bm bf off u fs f M B a b 24 (by simp) hS hu hI gp jz (λh=>absurd h (by decide))
def m5 (i:Int):Ob:=⟨1,[⟨false,i⟩]⟩
def gE (n:Nat):List Ob:=(List.range n).map λ(i:Nat)=>m5 ((i:Int)+1)
def ny (u:aU):bZ:=⟨gE 7,[⟨0,0,List.replicate (br u 0).locals.toNat cJ,[]⟩],[],0,0,cJ⟩
theorem uq (n:Nat):gE (n+1)=gE n++[m5 ((n:Int)+1)]:=by simp[gE,List.range_succ]
theorem fP (n:Nat):(gE n).length=n:=by simp[gE]
theorem MP:∀ w:World,(Go.binOp .eql 20 .nilIface .nilIface).run prog w=.ok (.bool true) w:=λ_=>by kernel_rfl
theorem JH (v:Value):∀ w:World,(Go.binOp .eql 20 (.iface 111 v) .nilIface).run prog w=.ok (.bool false) w:=λ_=>by kernel_rfl
theorem JI (v:Value):∀ w:World,(Instr.typeAssert (.iface 111 v) 20 111 true).run prog w=.ok (.tuple #[v,.bool true]) w:=λ_=>by kernel_rfl
theorem G9 {res:List ResultVar} {R:Value->Heap->Prop} {e:Env} {p4 p5:Nat} {h:Heap} (hx:gC sig e h res λvs=>kG (λv=>R v h) vs) :
  Et prog sig res R 140 [.pointer (some ⟨p4,0,none⟩),.pointer (some ⟨p5,0,none⟩)] .returning e h:=by
 refine FT au PK (k:=2) (v:=.nilIface) (.inl ⟨rfl,rfl⟩) func140 rfl rfl N6 rfl ?_;conv=>whnf
 refine jd rfl rfl (λw=>by simp[eqGuard]) MP ?_;conv=>whnf
 exact hx
theorem C6 {res:List ResultVar} {R:Value->Heap->Prop} {e:Env} {p4 p5:Nat} {k0 k:Int} {b0:Bool} {t4 t5:TypeId} {h:Heap} (h4:h p4=some (.cells #[.int .i64 k0] t4 (0,0))) (h5:h p5=some (.cells #[.bool b0] t5 (0,0))) (cD:p4≠p5)
  (hx:∀ h':Heap,h' p4=some (.cells #[.int .i64 k] t4 (0,0))->h' p5=some (.cells #[.bool false] t5 (0,0))->(∀ b,b≠p4->b≠p5->h b≠none->h' b=h b)->gC sig e h' res λvs=>kG (λv=>R v h') vs) :
  Et prog sig res R 140 [.pointer (some ⟨p4,0,none⟩),.pointer (some ⟨p5,0,none⟩)] (.panicking (jE k)) e h:=by
 refine FT au PK (k:=2) (.inr rfl) func140 rfl rfl N6 rfl ?_;conv=>whnf
 refine jd rfl rfl (λw=>by simp[eqGuard]) (JH _) ?_;conv=>whnf
 refine eR rfl (JI _) ?_;conv=>whnf
 refine z7 h4 [.int .i64 k] (by simp) rfl (λh1 e1 g1=>?_);conv=>whnf
 refine z7 (cs:=[.bool b0]) (t:=t5) (by rw[e1];simp only[Heap.set,cD.symm,if_false];exact h5) [.bool false] (by simp) rfl (λh2 e2 g2=>?_);conv=>whnf
 refine hx h2 ?_ g2 (λb Bd qw _=>?_)
 ·rw[e2];simp only[Heap.set,cD,if_false];exact g1
 ·rw[e2,e1];simp only[Heap.set,Bd,qw,if_false]
theorem gz.Wf {h0 h h2:Heap} {bm p4 p5:Nat} {M:bZ} {B:List Nat} (hM:gz h0 h bm [] [] M B) (hl:h.le h2) (h4:h p4=none) (h5:h p5=none):∃ Qk:Heap,h0.le Qk/\Qk p4=h2 p4/\Qk p5=h2 p5/\gz Qk h2 bm [] [] M B:=by
 obtain⟨le,⟨mc,t,U,own⟩,nd,fr⟩:=hM;have n0:∀ b,h b=none->h0 b=none:=λb U=>by
  cases hh:h0 b with
  | none=>rfl
  | some o=>rw[le b o hh]at U;cases U
 have fI:=own.in;refine⟨λb=>if b=p4\/b=p5 then h2 b else h0 b,λb o U=>?_,by simp,by simp,?_,⟨mc,t,hl _ _ U,own.aG (cC.of_le hl _)⟩,nd,λb eX=>?_⟩
 ·have:¬(b=p4\/b=p5):=by
   rintro(rfl|rfl)
   ·rw[n0 _ h4]at U;cases U
   ·rw[n0 _ h5]at U;cases U
  simp only[this,if_false];exact U
 ·intro b o U;by_cases hx:b=p4\/b=p5
  ·simp only[hx,if_true]at U;exact U
  ·simp only[hx,if_false]at U;exact hl _ _ (le _ _ U)
 ·have:¬(b=p4\/b=p5):=by
   have hs:∃ o,h b=some o:=by
    rcases List.mem_cons.1 eX with rfl|eX
    ·exact⟨_,U⟩
    ·exact fI b eX
   obtain⟨o,ho⟩:=hs;rintro(rfl|rfl)
   ·rw[h4]at ho;cases ho
   ·rw[h5]at ho;cases ho
  simp only[this,if_false];exact fr b eX
def aaC (h0 h:Heap) (bm:Nat) (B:List Nat):Except Int bZ->Value->Heap->Prop
 | .ok M',v,h'=>v=.tuple #[.agg #[.int .i64 0],.bool true]/\∃ B',gz h0 h' bm [] [] M' B'/\Ev h h' (bm::B) (bm::B')
 | .error k,v,h'=>v=.tuple #[.agg #[.int .i64 k],.bool false]/\Pn h0 bm h'
theorem He (h0 h:Heap) (bm:Nat) (us:List Value) (u:aU) (fs:List bU) (f:bU) (M:bZ) (B:List Nat) (r:Except Int bZ) (hr:lz u fs f M=r) (hM:gz h0 h bm [] [] M B) (hu:dL h0 us u) (hf:M.ag=fs++[f])
  (hT:eC u) (hI:G6 u M) (hsend:Bb u f) :
  bI prog 84 [.agg ⟨us⟩,.pointer (some ⟨bm,0,none⟩)] h (aaC h0 h bm B r):=by
 have G7:f∈M.ag:=by rw[hf];simp
 have hF:=hI.jy f G7;have iJ:=hu;obtain⟨p,cc,q,d,rfl,hcs,fM,jN,hl2⟩:=hu.form;refine CF au F84 (k:=2) 3 func84 Z6 rfl rfl rfl rfl rfl rfl rfl rfl ?_;conv=>whnf
 refine dI [.int .i64 0] rfl (λp4 h1 Bd e4 l4 g4=>?_);conv=>whnf
 refine dI [.bool false] rfl (λp5 h2 qw e5 l5 g5=>?_);conv=>whnf
 have cD:p4≠p5:=by rintro rfl;rw[g4]at qw;cases qw
 have MQ:h p5=none:=by
  cases hh:h p5 with
  | none=>rfl
  | some o=>rw[l4 _ _ hh]at qw;cases qw
 have g42:=l5 _ _ g4;have Wg:=hM.Wf (Heap.le_trans l4 l5) Bd MQ;refine Wg.elim (λQk bz=>?_);have k4:=bz.2.1.trans g42;have k5:=bz.2.2.1.trans g5;have hMt:=bz.2.2.2;have zB:=bz.1;refine aD (uh Qk h2 bm _ u fs f M B hMt (iJ.le zB) hf hF.ah (by have:=hI.nf;omega)) (λv h3 hn=>?_);refine hn.2.elim λbs OI=>OI.elim λbf hn3=>hn3.elim λoff Yx=>?_;have hS:=Yx.2.2;have hv:=Yx.1;subst hv;conv=>whnf
 have iu:=aaA Qk h3 bs bm bf off u fs f M B hS hT hI hsend;rw[hr]at iu;refine cW iu (λv h4 hh=>?_) (λc h4 hh=>?_)
 ·refine hh.elim λM' fU=>fU.2.elim λB' jj=>?_;have Ql:=jj.1;have ev:=jj.2;have hrM:=fU.1;have q4:=Ql.le _ _ k4;have q5:=Ql.le _ _ k5;conv=>whnf
  refine z7 q4 [.int .i64 0] (by simp) rfl (λh5 e5 f5=>?_);conv=>whnf
  refine z7 (cs:=[.bool false]) (t:=4) (by rw[e5];simp only[Heap.set,cD.symm,if_false];exact q5) [.bool true] (by simp) rfl (λh6 e6 f6=>?_);conv=>whnf
  have f56:h6 p4=some (.cells [Value.int .i64 0].toArray 111 (0,0)):=by rw[e6];simp only[Heap.set,cD,if_false];exact f5
  refine G9 ?_;conv=>whnf
  repeat' ((first|refine dK (vs:=[.int .i64 0]) (by simp[eG,rd,f56]) ?_|refine ld (ec f6 rfl) ?_|refine aq ?_|refine aj ?_|refine ptr ?_)<;>conv=>whnf)
  subst hrM;have hle:h.le h3:=Heap.le_trans (Heap.le_trans l4 l5) hn.1;have h64:∀ b,b≠p4->b≠p5->h6 b=h4 b:=λb n4 n5=>by rw[e6,e5];simp only[Heap.set,n4,n5,if_false]
  have Yy:∀ b o,h b=some o->b≠p4/\b≠p5:=λb o ho=>⟨(by rintro rfl;rw[Bd]at ho;cases ho),(by rintro rfl;rw[MQ]at ho;cases ho)⟩
  have fI:∀ b∈bm::B',h6 b=h4 b:=λb U=>h64 b (by rintro rfl;have:=Ql.fr b U;rw[k4]at this;cases this) (by rintro rfl;have:=Ql.fr b U;rw[k5]at this;cases this);obtain⟨le4,⟨mc,tm,iq,own⟩,MR,MS⟩:=Ql;refine⟨rfl,B',⟨λb o ho=>?_,⟨mc,tm,by rw[fI bm (by simp)];exact iq,own.aG λb U o ho=>by rw[fI b (by simp[U])];exact ho⟩,MR,λb U=>?_⟩,λb U D2=>?_,λb U=>?_⟩
  ·rw[h64 b (Yy b o (hM.le b o ho)).1 (Yy b o (hM.le b o ho)).2];exact le4 _ _ (zB _ _ ho)
  ·cases hh:h0 b with
   | none=>rfl
   | some o=>have:=zB b o hh;rw[MS b U]at this;cases this
  ·cases ho:h b with
   | none=>exact absurd ho U
   | some o=>rw[h64 b (Yy b o ho).1 (Yy b o ho).2,ev.ic b (by rw[hle b o ho];simp) D2,hle b o ho]
  ·refine(ev.new b U).imp id λrU=>?_;cases ho:h b with
   | none=>rfl
   | some o=>rw[hle b o ho]at rU;cases rU
 ·refine hh.elim λk fU=>?_;have hrk:=fU.1;have hck:=fU.2.1;have hle:=fU.2.2.1;have qb:=fU.2.2.2;subst hrk;subst hck;conv=>whnf
  refine C6 (hle _ _ k4) (hle _ _ k5) cD (λh5 f4 f5 aG=>?_);conv=>whnf
  repeat' ((first|refine dK (vs:=[.int .i64 k]) (by simp[eG,rd,f4]) ?_|refine ld (ec f5 rfl) ?_|refine aq ?_|refine aj ?_|refine ptr ?_)<;>conv=>whnf)
  refine⟨rfl,λb o ho=>?_,?_⟩
  ·have n4:b≠p4:=by rintro rfl;have:=hM.le b o ho;rw[Bd]at this;cases this
   have n5:b≠p5:=by rintro rfl;have:=hM.le b o ho;rw[MQ]at this;cases this
   have RU:=hle _ _ (zB _ _ ho);rw[aG b n4 n5 (by rw[RU];simp)];exact RU
  ·obtain⟨mcs,tm,iq,hlen⟩:=qb;obtain⟨o,ho⟩:=hM.in bm (by simp);have n4:bm≠p4:=by rintro rfl;rw[Bd]at ho;cases ho
   have n5:bm≠p5:=by rintro rfl;rw[MQ]at ho;cases ho
   exact⟨mcs,tm,by rw[aG bm n4 n5 (by rw[iq];simp)];exact iq,hlen⟩
def gY (u:aU) (M:bZ):bZ :=
 if M.fin≠0\/200<=M.steps\/200<=M.said.length\/207<=M.objs.length then M
 else match M.ag.getLast? with
  | none=>M
  | some f=>match lz u M.ag.dropLast f M with
   | .ok M'=>{M' with steps:=M'.steps+1}
   | .error k=>if k=0 then {M with fin:=3,steps:=M.steps+1}else {cK u k M with steps:=(cK u k M).steps+1}
theorem z9 {u:aU} {M:bZ} {fs:List bU} {f:bU} (hf:M.ag=fs++[f]) (hg:¬(M.fin≠0\/200<=M.steps\/200<=M.said.length\/207<=M.objs.length)):gY u M=match lz u fs f M with
   | .ok M'=>{M' with steps:=M'.steps+1}
   | .error k=>if k=0 then {M with fin:=3,steps:=M.steps+1}else {cK u k M with steps:=(cK u k M).steps+1}:=by
 unfold gY;rw[if_neg hg,hf];simp
structure JJ (u:aU) (M:bZ):Prop where
 inv:G6 u M
 jy:M.fin=0->M.ag≠[]
 send:∀ f∈M.ag,Bb u f
 fault:∀ fs f k,M.ag=fs++[f]->lz u fs f M=.error k->k=0\/0 < k/\k<=7
 cls:∀ k,0 < k->k<=7->(aF M.objs k).cls < u.J.length
 steps:0<=M.steps/\M.steps<=200
 JK:∀ fs f M',M.ag=fs++[f]->lz u fs f M=.ok M'->M'.steps=M.steps
theorem EU {h:Heap} {bm:Nat} {t:TypeId} {vo vf vs:Value} {M:bZ} (U:h bm=some (.cells ([]++aB vo vf vs M++[]).toArray t (0,0))):eG h bm 0 7=some (aB vo vf vs M):=by
 rw[bP U 7 0 (by simp[aB])];simp[aB]
def kr (po:Option Addr) (co:Nat) (pf:Option Addr) (cf:Nat) (ps:Option Addr) (cs:Nat) (M:bZ):List Value:=aB (.slice po M.objs.length co) (.slice pf M.ag.length cf) (.slice ps M.said.length cs) M
theorem gJ.kr {h:Heap} {mc:List Value} {M:bZ} {B:List Nat} (ho:gJ h mc M B):∃ po co pf cf ps cs,mc=kr po co pf cf ps cs M:=by
 obtain⟨vo,vf,vs,B1,B2,B3,rfl,k1,k2,k3,rfl⟩:=ho;obtain⟨po,co,rfl,_⟩:=k1.form;obtain⟨pf,cf,rfl,_⟩:=k2.form;obtain⟨ps,cs,e,_⟩:=k3.form;exact⟨po,co,pf,cf,ps,cs,by subst e;simp[Go.Proofs.kr,aB]⟩
theorem wD (mc:List Value) (M:bZ) (h:Heap) (hr:xZ h mc M) :
  bI prog 83 [.agg ⟨mc⟩] h λv h'=>∃ po co pf cf ps cs B,v=.agg ⟨kr po co pf cf ps cs M⟩/\gJ h' (kr po co pf cf ps cs M) M B/\Nd B/\(∀ b∈B,h b=none)/\h.le h' :=
 (CW mc M h hr).mono λv h' ⟨hl,F5,B,e,own,nd,fr⟩=>by
  obtain⟨po,co,pf,cf,ps,cs,e2⟩:=own.kr;subst e2;exact⟨po,co,pf,cf,ps,cs,B,e,own,nd,fr,hl⟩
theorem gz.made {h h1 h2:Heap} {mc:List Value} {M:bZ} {B:List Nat} {bm:Nat} {t:TypeId} (own:gJ h1 mc M B) (nd:Nd B) (fr:∀ b∈B,h b=none) (hl:h.le h1) (U:h1 bm=none) (hl2:h1.le h2) (hg:h2 bm=some (.cells mc.toArray t (0,0))):gz h h2 bm [] [] M B:=by
 have hn:bm ∉ B:=λhx=>by
  obtain⟨o,ho⟩:=own.in bm hx;rw[U]at ho;cases ho
 refine⟨Heap.le_trans hl hl2,⟨mc,t,by simpa using hg,own.aG (cC.of_le hl2 _)⟩,?_,λb hx=>?_⟩
 ·intro a;have:=nd a;by_cases ha:bm=a
  ·subst ha;simp[List.count_eq_zero.2 hn]
  ·simp[ha];exact this
 ·rcases List.mem_cons.1 hx with rfl|hx
  ·cases hh:h b with
   | none=>rfl
   | some o=>rw[hl b o hh]at U;cases U
  ·exact fr b hx
theorem gz.Wh {h h4 h5 h6:Heap} {mc:List Value} {M:bZ} {B:List Nat} {bm:Nat} {t:TypeId} {o:Obj} (own:gJ h5 mc M B) (nd:Nd B) (fr:∀ b∈B,h4 b=none) (hl:h.le h4) (LH:h4.le h5) (U:h4 bm=some o) (hn:h bm=none) (hg:h6 bm=some (.cells mc.toArray t (0,0)))
  (aG:∀ b,b≠bm->h6 b=h5 b):gz h h6 bm [] [] M B:=by
 have sH:bm ∉ B:=λhx=>by have:=fr bm hx;rw[U]at this;cases this
 refine⟨λb x hx=>?_,⟨mc,t,by simpa using hg,own.aG λb eX o ho=>?_⟩,?_,λb hx=>?_⟩
 ·have:b≠bm:=by rintro rfl;rw[hn]at hx;cases hx
  rw[aG b this];exact LH _ _ (hl _ _ hx)
 ·have:b≠bm:=by rintro rfl;exact sH eX
  rw[aG b this];exact ho
 ·intro a;have:=nd a;by_cases ha:bm=a
  ·subst ha;simp[List.count_eq_zero.2 sH]
  ·simp[ha];exact this
 ·rcases List.mem_cons.1 hx with rfl|hx
  ·exact hn
  ·cases hh:h b with
   | none=>rfl
   | some o=>have:=fr b hx;rw[hl _ _ hh]at this;cases this
theorem Hf {cs vs:List Value} (h:vs.length=cs.length):ep cs 0 vs=vs:=by
 have:=mg (pre:=[]) (x:=cs) (x':=vs) (post:=[]) (n:=0) rfl h;simpa using this
theorem gz.out {h0 h:Heap} {bm:Nat} {M:bZ} {B:List Nat} (hM:gz h0 h bm [] [] M B):∃ po co pf cf ps cs,eG h bm 0 7=some (kr po co pf cf ps cs M)/\gJ h (kr po co pf cf ps cs M) M B/\Nd B/\∀ b∈B,h0 b=none:=by
 obtain⟨le,⟨mc,t,U,own⟩,nd,fr⟩:=hM;obtain⟨po,co,pf,cf,ps,cs,rfl⟩:=own.kr;exact⟨po,co,pf,cf,ps,cs,EU U,own,nd.less λa=>by simp only[List.count_cons];omega,λb hx=>fr b (List.mem_cons_of_mem _ hx)⟩
theorem EV (mc us:List Value) (u:aU) (M:bZ) (h:Heap) (hr:xZ h mc M) (hu:dL h us u) (hT:eC u) (hI:M.fin=0->JJ u M) :
  bI prog 42 [.agg ⟨us⟩,.agg ⟨mc⟩] h λv h'=>h.le h'/\∃ F5 B,v=.agg ⟨F5⟩/\gJ h' F5 (gY u M) B/\Nd B/\∀ b∈B,h b=none:=by
 have gD:=hr;have JL:=wD mc M h hr;have iJ:=hu;obtain⟨p,cc,q,d,rfl,hcs,fM,jN,hl2⟩:=hu.form;obtain⟨vo,vf,vs,rfl,s1,s2,ho,hf,hs⟩:=hr;obtain⟨po,co,rfl,_,_⟩:=ho.len;obtain⟨pf,cf,rfl,_,_⟩:=hf.len;obtain⟨ps,cs,iT⟩:∃ p c,vs=.slice p M.said.length c:=by
  obtain⟨_,_,p,c,e,_⟩:=hs;exact⟨p,c,by simpa using e⟩
 subst iT;by_cases hg:M.fin≠0\/200<=M.steps\/200<=M.said.length\/207<=M.objs.length
 ·have fW:gY u M=M:=by unfold gY;rw[if_pos hg]
  rw[fW];refine bS au func42 ZD SK rfl ?_;conv=>whnf
  repeat' ((first|refine b8 ?_|refine bL ?_|refine cU ?_|refine cF ?_|apply ax<;>intro _|apply aV<;>intro _)<;>conv=>whnf)
  all_goals first
   | (exfalso;omega)
   | (
    refine aD JL (λv h1 hc=>?_);refine hc.elim λpo' hc=>hc.elim λco' hc=>hc.elim λQd hc=>hc.elim λcf' hc=>hc.elim λOo hc=>hc.elim λjt hc=>hc.elim λB hc=>?_;have hv:=hc.1;subst hv;conv=>whnf
    exact⟨hc.2.2.2.2,_,B,rfl,hc.2.1,hc.2.2.1,hc.2.2.2.1⟩)
 have eZ:M.fin=0:=by omega
 have ez:=hI eZ;refine bS au func42 ZD SK rfl ?_;conv=>whnf
 repeat' ((first|refine b8 ?_|refine bL ?_|refine cU ?_|refine cF ?_)<;>conv=>whnf)
 have Qm:∃ fs f,M.ag=fs++[f]:=by
  rcases List.eq_nil_or_concat M.ag with e|⟨gs,gl,e⟩
  ·exact absurd e (ez.jy eZ)
  ·exact⟨gs,gl,by simpa using e⟩
 refine Qm.elim λfs Qm=>Qm.elim λf gA=>?_;have fW:=z9 (u:=u) gA hg;have Wi:=λ(h2:Heap) (bm:Nat) (B:List Nat) (r:Except Int bZ) (hr:lz u fs f M=r) (hM:gz h h2 bm [] [] M B)=>He h h2 bm _ u fs f M B r hr hM iJ gA hT ez.inv (ez.send f (by rw[gA];simp));have Wj:=ez.fault fs f;have JM:=ez.JK fs f;have Wk:∀ g∈M.ag,0<=g.ah/\g.ah < u.methods.length:=λg RW=>(ez.inv.jy g RW).ah;have aby:=ez.inv.len;have Qn:=ez.inv.nf;have dZ:=ez.steps;generalize iu:lz u fs f M=r at fW Wi Wj JM;refine aD JL (λv h1 hc=>?_);refine hc.elim λpo' hc=>hc.elim λco' hc=>hc.elim λQd hc=>hc.elim λcf' hc=>hc.elim λOo hc=>hc.elim λjt hc=>hc.elim λB hc=>?_;have hv:=hc.1;subst hv;have own:=hc.2.1;have ndB:=hc.2.2.1;have frB:=hc.2.2.2.1;have l1:=hc.2.2.2.2;conv=>whnf
 refine dI [.slice none 0 0,.slice none 0 0,.slice none 0 0,.int .i64 0,.int .i64 0,.bool false,.int .i64 0] rfl (λbm h2 eX e2 l2 g2=>?_);conv=>whnf
 refine z7 g2 (kr po' co' Qd cf' Oo jt M) (by simp) rfl (λh3 e3 g3=>?_);have l3:h1.le h3:=by
  intro b o U;have cD:b≠bm:=by rintro rfl;rw[eX]at U;cases U
  rw[e3];simp only[Heap.set,cD,if_false];exact l2 b o U
 have LM:gz h h3 bm [] [] M B:=gz.made own ndB frB l1 eX l3 g3;conv=>whnf
 refine aD (Wi h3 bm B r rfl LM) (λv h4 hv=>?_);cases r with
 | ok M' =>
  refine hv.2.elim λB' Wl=>?_;have hv1:=hv.1;subst hv1;have Ql:=Wl.1;have zj:=Wl.2;have OJ:=JM M' gA rfl;have hints:=Ql.ints;obtain⟨t,yd,CY,oW,iq,_,_,_,eF⟩:=hints;have s3:=eF {M' with steps:=M'.steps+1} rfl rfl rfl;have r3:rd h4 bm 3=some (.int .i64 M'.steps):=bG iq (i:=3) rfl rfl;conv=>whnf
  refine ld r3 ?_;conv=>whnf
  refine aj ?_;conv=>whnf
  refine kJ iq (i:=3) (aB yd CY oW {M' with steps:=M'.steps+1}) rfl (by simp[aB]) (by rfl) (λh5 e5 g5=>?_);rw[<-e5]at s3;obtain⟨po5,co5,pf5,cf5,ps5,cs5,Wm,JN,Wn,Wo⟩:=s3.1.out;conv=>whnf
  refine dK Wm ?_;conv=>whnf
  rw[fW];exact⟨s3.1.le,_,B',rfl,JN,Wn,Wo⟩
 | error k =>
  have hv1:=hv.1;subst hv1;have l4:h.le h4:=hv.2.1;have qb:=hv.2.2;have hk7:=Wj k gA rfl;conv=>whnf
  refine aD (wD _ M h4 (gD.le l4)) (λv h5 hc=>?_);refine hc.elim λpo2 hc=>hc.elim λRX hc=>hc.elim λpf2 hc=>hc.elim λcf2 hc=>hc.elim λps2 hc=>hc.elim λRL hc=>hc.elim λB2 hc=>?_;have hv:=hc.1;subst hv;have aaD:=hc.2.1;have nd2:=hc.2.2.1;have fr2:=hc.2.2.2.1;have l5:=hc.2.2.2.2;refine qb.elim λws qb=>qb.elim λtb qb=>?_;have me:=qb.1;have BV:=qb.2;have sH:h bm=none:=by
   cases hh:h bm with
   | none=>rfl
   | some o=>rw[l1 _ _ hh]at eX;cases eX
  conv=>whnf
  refine z7 (l5 _ _ me) (kr po2 RX pf2 cf2 ps2 RL M) (by rw[BV];exact Nat.le_refl 7) (Hf (by rw[BV];rfl)) (λh6 e6 g6=>?_);have OK:gz h h6 bm [] [] M B2:=gz.Wh aaD nd2 fr2 l4 l5 me sH g6 (λb U=>by rw[e6];simp only[Heap.set,U,if_false]);conv=>whnf
  apply ax<;>intro gk;all_goals conv=>whnf
  ·subst gk;obtain⟨t,yd,CY,oW,iq,_,_,_,eF⟩:=OK.ints;have s3:=(eF {M with fin:=3} rfl rfl rfl).1;refine kJ iq (i:=4) (aB yd CY oW {M with fin:=3}) rfl (by simp[aB]) (by rfl) (λh7 e7 g7=>?_);rw[<-e7]at s3;obtain⟨t',Qo,Qp,Ji,JO,_,_,_,Qq⟩:=s3.ints;have s4:=(Qq {M with fin:=3,steps:=M.steps+1} rfl rfl rfl).1;have r3:rd h7 bm 3=some (.int .i64 M.steps):=bG JO (i:=3) rfl rfl;conv=>whnf
   refine ld r3 ?_;conv=>whnf
   refine aj ?_;conv=>whnf
   refine kJ JO (i:=3) (aB Qo Qp Ji {M with fin:=3,steps:=M.steps+1}) rfl (by simp[aB]) (by rfl) (λh8 e8 g8=>?_);rw[<-e8]at s4;obtain⟨po5,co5,pf5,cf5,ps5,cs5,Wm,JN,Wn,Wo⟩:=s4.out;conv=>whnf
   refine dK Wm ?_;conv=>whnf
   rw[fW];exact⟨s4.le,_,B2,rfl,JN,Wn,Wo⟩
  ·have FZ:0 < k/\k<=7:=hk7.resolve_left gk;refine aD (uk h h6 bm _ u M B2 k OK iJ hT.1 (by omega) (by omega) (by omega) (ez.cls k FZ.1 FZ.2) Wk) (λv h7 hv=>?_);refine hv.elim λB7 hv=>?_;have hM7:=hv.1;obtain⟨t',Qo,Qp,Ji,JO,_,_,_,Qq⟩:=hM7.ints;have s4:=(Qq {cK u k M with steps:=(cK u k M).steps+1} rfl rfl rfl).1;have abM:(cK u k M).steps=M.steps:=by unfold cK;split<;>rfl
   have r3:rd h7 bm 3=some (.int .i64 (cK u k M).steps):=bG JO (i:=3) rfl rfl;conv=>whnf
   refine ld r3 ?_;conv=>whnf
   refine aj ?_;conv=>whnf
   refine kJ JO (i:=3) (aB Qo Qp Ji {cK u k M with steps:=(cK u k M).steps+1}) rfl (by simp[aB]) (by rfl) (λh8 e8 g8=>?_);rw[<-e8]at s4;obtain⟨po5,co5,pf5,cf5,ps5,cs5,Wm,JN,Wn,Wo⟩:=s4.out;conv=>whnf
   refine dK Wm ?_;conv=>whnf
   have aaE:gY u M = {cK u k M with steps:=(cK u k M).steps+1}:=fW.trans (if_neg gk);rw[aaE];exact⟨s4.le,_,B7,rfl,JN,Wn,Wo⟩
theorem C7 {cs:List dR} (ok:cj cs):∀(k:Nat) {a b c:Int},a.toNat < k->a < cs.length->up cs a b=true->up cs b c=true->up cs a c=true
 | 0,a,b,c,h,_,_,_=>by omega
 | k+1,a,b,c,h,hl,h1,h2=>by
  have h0:=kI h1;rw[ig ok h0 hl]at h1 ⊢;by_cases Og:a=b
  ·subst Og;rw[ig ok h0 hl]at h2;exact h2
  ·have hs:=ok.bN h0 hl;simp only[Og,decide_false,Bool.false_or]at h1;by_cases Qr:a=c
   ·simp[Qr]
   ·simp only[Qr,decide_false,Bool.false_or];exact C7 ok k (by have:=kI h1;omega) (by omega) h1 h2
theorem Wp {cs:List dR} (ok:cj cs) {a b:Int} (hl:a < cs.length) (h:up cs a b=true):b<=a:=by
 rcases Int.lt_or_le a b with U|U
 ·rw[Ez ok (a.toNat+1) (by omega) hl U]at h;cases h
 ·exact U
theorem vI {cs:List dR} (ok:cj cs):∀(k:Nat) {a b:Int},a.toNat < k->a < cs.length->up cs a b=true->0<=b
 | 0,a,b,h,_,_=>by omega
 | k+1,a,b,h,hl,h1=>by
  have h0:=kI h1;rw[ig ok h0 hl]at h1;by_cases Og:a=b
  ·omega
  ·have hs:=ok.bN h0 hl;simp only[Og,decide_false,Bool.false_or]at h1;exact vI ok k (by have:=kI h1;omega) (by omega) h1
theorem F9 {c s:Int}:∀(l:List cB) (k:Int),0<=k->je c s l k = -1\/∃ i,∃ hi:i < l.length,je c s l k=k+i/\l[i].cls=c/\l[i].eL=s
 | [],k,_=>.inl rfl
 | m::r,k,hk=>by
  rw[je];split
  ·rename_i h;exact .inr ⟨0,by simp,by simp,h.1,h.2⟩
  ·rcases F9 (c:=c) (s:=s) r (k+1) (by omega)with h|⟨i,hi,h1,h2,h3⟩
   ·exact .inl h
   ·exact .inr ⟨i+1,by simpa using hi,by rw[h1];omega,by simpa using h2,by simpa using h3⟩
theorem C8 {u:aU} {c s:Int} (h:0<=je c s u.methods 0):je c s u.methods 0 < u.methods.length/\(br u (je c s u.methods 0)).cls=c/\(br u (je c s u.methods 0)).eL=s:=by
 rcases F9 (c:=c) (s:=s) u.methods 0 (by omega)with e|⟨i,hi,e,h2,h3⟩
 ·omega
 ·have e':je c s u.methods 0=(i:Int):=by omega
  rw[e',gv hi rfl];exact⟨by omega,h2,h3⟩
theorem ur {u:aU} (ok:cj u.J) {s:Int}:∀(k:Nat) {c:Int},c.toNat < k->c < u.J.length->0<=find u c s->up u.J c (br u (find u c s)).cls=true/\(br u (find u c s)).eL=s/\find u c s < u.methods.length
 | 0,c,h,_,_=>by omega
 | k+1,c,h,hl,hf=>by
  rcases Int.lt_or_le c 0 with h0|h0
  ·rw[nS h0]at hf;omega
  ·have hs:=ok.bN h0 hl;by_cases ho:0<=je c s u.methods 0
   ·rw[tW h0 ho];obtain⟨h1,h2,h3⟩:=C8 ho;exact⟨by rw[h2];exact tV ok h0 hl,h3,h1⟩
   ·rw[xh ok h0 hl (by omega)]at hf ⊢;rcases Int.lt_or_le (bC u.J c) 0 with h4|h4
    ·rw[nS h4]at hf;omega
    ·obtain⟨h1,h2,h3⟩:=ur ok k (c:=bC u.J c) (by omega) (by omega) hf;exact⟨by rw[ig ok h0 hl,h1];simp,h2,h3⟩
theorem vJ {u:aU} (hu:eC u) {s a:Int} (ha:a < u.J.length) (hf:0<=find u a s):∀(k:Nat) {c:Int},c.toNat < k->c < u.J.length->up u.J c a=true ->
  0<=find u c s/\(br u (find u c s)).args=(br u (find u a s)).args/\(br u (find u c s)).out=(br u (find u a s)).out
 | 0,c,h,_,_=>by omega
 | k+1,c,h,hl,zW=>by
  have ok:=hu.1;have h0:=kI zW;have hs:=ok.bN h0 hl;have aaF:=zW;rw[ig ok h0 hl]at zW;by_cases hca:c=a
  ·subst hca;exact⟨hf,rfl,rfl⟩
  ·simp only[hca,decide_false,Bool.false_or]at zW;by_cases ho:0<=je c s u.methods 0
   ·rw[tW h0 ho];obtain⟨h1,h2,h3⟩:=C8 ho;obtain⟨k1,k2,k3⟩:=ur ok (a.toNat+1) (by omega) ha hf;refine⟨ho,?_⟩;generalize hi:je c s u.methods 0=i at *;generalize hj:find u a s=j at *;have wg:i.toNat < u.methods.length:=by omega
    have Jk:j.toNat < u.methods.length:=by omega
    have ei:=gv (n:=i) wg (by omega);have ej:=gv (n:=j) Jk (by omega);by_cases Y1:i=j
    ·subst Y1;exact⟨rfl,rfl⟩
    ·have hp:=hu.2.2.2.2 i.toNat j.toNat wg Jk (by omega);rw[<-ei,<-ej]at hp;have hcj:0<=(br u j).cls:=vI ok (a.toNat+1) (by omega) ha k1;have:=(hp (by omega) hcj (by rw[h3,k2])).2 (by rw[h2];exact C7 ok (c.toNat+1) (by omega) hl aaF k1);exact⟨this.2,this.1⟩
   ·rw[xh ok h0 hl (by omega)];exact vJ hu ha hf k (by have:=kI zW;omega) (by omega) zW
theorem eC.br {u:aU} (hu:eC u) {k:Int} (h:0<=k/\k < u.methods.length):qy u (br u k):=hu.2.2.2.1 _ (ir h)
theorem wE {u:aU} (ok:cj u.J) {s c:Int} (hl:c < u.J.length) (hf:0<=find u c s):0<=(br u (find u c s)).cls :=
 vI ok (c.toNat+1) (by omega) hl (ur ok (c.toNat+1) (by omega) hl hf).1
theorem vK {m:cB}:(bX m).length=(if 0<=m.cls then 1 else 0)+m.args.length:=by
 unfold bX;split<;>simp<;>omega
theorem Aa {u:aU} (hu:eC u) {f:bU} (hm:0<=f.ah/\f.ah < u.methods.length):Bb u f:=by
 intro x aS rest c hx hk ht hc zW;have kK:=(hu.br hm).2.1.2.2.2.1 x hx;obtain⟨kind,a,b⟩:=x;simp only at hk;subst hk;have ha:=(aI (p:=5) (q:=9) rfl).1 kK;simp[bA]at ha;obtain⟨ws,me,hlen,_,_⟩:=mq ht;simp[cM]at me;have hfa:=me.1;obtain⟨h1,h2,h3⟩:=vJ hu (s:=b) (a:=a) (by omega) (by omega) (c.toNat+1) (by omega) hc zW;obtain⟨k1,k2,k3⟩:=ur hu.1 (s:=b) (c.toNat+1) (c:=c) (by omega) hc h1;have Hg:=(hu.br ⟨h1,k3⟩).1;have lq:=wE hu.1 hc h1;have BY:=Hg.2.2.2.2.2;rw[vK,if_pos lq]at BY;refine⟨h1,?_,Hg.2.2.2.2.1⟩;rw[hlen,<-me.2];simp only[List.length_cons,List.length_replicate];rw[<-h2];omega
def tD (n:Nat) (v:Vl):Prop:=(v.ref=true->0<=v.n/\v.n<=n)/\(v.ref=false->isWord v.n=true)
def RY (u:aU) (n:Nat) (o:Ob):Prop:=(∀ v∈o.bE,tD n v)/\(((o.cls = -1\/o.cls = -2)/\o.bE.length<=6)\/(0<=o.cls/\o.cls < u.J.length/\o.bE.length=(cX u.J o.cls).length))
def EW (u:aU) (n:Nat) (f:bU):Prop:=(0<=f.ah/\f.ah < u.methods.length)/\(0<=f.pc/\f.pc<=(br u f.ah).code.length)/\(f.locals.length:Int)=(br u f.ah).locals/\f.stack.length<=4/\(∀ v∈f.locals,tD n v)/\∀ v∈f.stack,tD n v
def aaG (M:bZ):Prop:=((M.fin=0\/M.fin=3)/\M.ag≠[]/\M.out=cJ)\/(M.fin=1/\M.ag=[])\/(M.fin=2/\M.ag=[]/\M.out.ref=true/\1<=M.out.n)
structure zC (u:aU) (M:bZ):Prop where
 steps:0<=M.steps/\M.steps<=200
 len:7<=M.objs.length/\M.objs.length<=207
 nf:M.ag.length<=4
 pU:M.said.length<=200
 out:tD M.objs.length M.out
 objs:∀ o∈M.objs,RY u M.objs.length o
 low:∀ k,0 < k->k<=7->(aF M.objs k).cls=1
 jy:∀ f∈M.ag,EW u M.objs.length f
 said:∀ n∈M.said,isWord n=true
 fin:aaG M
theorem tD.mono {n m:Nat} {v:Vl} (h:tD n v) (hl:n<=m):tD m v:=⟨λhr=>by have:=h.1 hr;omega,h.2⟩
theorem RY.mono {u:aU} {n m:Nat} {o:Ob} (h:RY u n o) (hl:n<=m):RY u m o:=⟨λv hv=>(h.1 v hv).mono hl,h.2⟩
theorem EW.mono {u:aU} {n m:Nat} {f:bU} (h:EW u n f) (hl:n<=m):EW u m f:=⟨h.1,h.2.1,h.2.2.1,h.2.2.2.1,λv hv=>(h.2.2.2.2.1 v hv).mono hl,λv hv=>(h.2.2.2.2.2 v hv).mono hl⟩
theorem zC.inv {u:aU} {M:bZ} (h:zC u M):G6 u M where
 objs o ho:=by
  rcases(h.objs o ho).2 with ⟨h1,h2⟩|⟨h1,h2,h3⟩
  ·exact⟨by omega,λh3=>by omega⟩
  ·exact⟨by omega,λ_=>h3⟩
 len:=⟨h.len.1,by have:=h.len.2;omega⟩
 bE o ho v hv:=((h.objs o ho).1 v hv).1
 jy g hg:=by
  obtain⟨h1,h2,h3,h4,h5,h6⟩:=h.jy g hg;exact⟨h1,h2,h3,h4,λv hv=>(h5 v hv).1,λv hv=>(h6 v hv).1⟩
 nf:=h.nf
 said:=by have:=h.pU;omega
structure GW (u:aU) (objs:List Ob) (f:bU):Prop where
 len:7<=objs.length
 zk:∀ o∈objs,RY u objs.length o
 low:∀ k,0 < k->k<=7->(aF objs k).cls=1
 jy:EW u objs.length f
theorem uu {u:aU} {objs o':List Ob} {f f':bU} {v:Vl} (h:GW u objs f) (hv:tD objs.length v) (hp:di objs f v=.ok (o',f')):o'=objs/\GW u o' f'/\f'.ah=f.ah/\f'.pc=f.pc/\f'.locals=f.locals/\f'.stack=f.stack++[v]:=by
 unfold di at hp;split at hp
 ·simp only[Except.ok.injEq,Prod.mk.injEq]at hp;obtain⟨rfl,rfl⟩:=hp;obtain⟨h1,h2,h3,h4,h5,h6⟩:=h.jy;refine⟨rfl,⟨h.len,h.zk,h.low,h1,h2,h3,by simp;omega,h5,λw hw=>?_⟩,rfl,rfl,rfl,rfl⟩;simp only[List.mem_append,List.mem_singleton]at hw;rcases hw with hw|rfl
  ·exact h6 w hw
  ·exact hv
 ·cases hp
theorem JP {objs:List Ob} {o:Ob} {k:Int} (h:0 < k) (hl:k<=objs.length):aF (objs++[o]) k=aF objs k:=by
 have hi:(k-1).toNat < objs.length:=by omega
 unfold aF;simp only[List.getD_eq_getElem?_getD,List.getElem?_append_left hi]
theorem qC {n:Nat} {k:Int} (h : -128<=k/\k<=127):tD n ⟨false,k⟩:=⟨λhr=>(by cases hr),λ_=>eT.2 h⟩
theorem Hh (n:Nat) (t:Int):tD n (nothing t):=by
 unfold nothing tD;refine⟨λ_=>by simp,λ_=>by show isWord 0=true;decide⟩
theorem Qs {u:aU} {objs o':List Ob} {f f':bU} {k:Int} {types:List Int} (h:GW u objs f) (hc:((k = -1\/k = -2)/\types.length<=6)\/(0<=k/\k < u.J.length/\types.length=(cX u.J k).length))
  (hp:uf k types objs f=.ok (o',f')):o'=objs++[⟨k,types.map nothing⟩]/\GW u o' f'/\f'.ah=f.ah/\f'.pc=f.pc:=by
 unfold uf at hp;have hG:GW u (objs++[⟨k,types.map nothing⟩]) f:=by
  refine⟨by have:=h.len;simp;omega,λo ho=>?_,λj h1 h2=>by rw[JP h1 (by have:=h.len;omega)];exact h.low j h1 h2,h.jy.mono (by simp)⟩;simp only[List.mem_append,List.mem_singleton]at ho;rcases ho with ho|rfl
  ·exact(h.zk o ho).mono (by simp)
  ·refine⟨λv hv=>?_,by simpa using hc⟩;simp only[List.mem_map]at hv;obtain⟨t,_,rfl⟩:=hv;exact Hh _ _
 obtain⟨e1,e2,e3,e4,_⟩:=uu hG ⟨λ_=>by simp;omega,λhr=>by cases hr⟩ hp;exact⟨e1,e2,e3,e4⟩
theorem JQ {objs:List Ob} {n:Int} (h:0 < n) (hl:n<=objs.length):∃ hi:(n-1).toNat < objs.length,aF objs n=objs[(n-1).toNat] :=
 ⟨by omega,ue (by omega) (by omega)⟩
theorem iw {objs:List Ob} {n:Int} (h:0 < n) (hl:n<=objs.length):aF objs n∈objs:=by
 obtain⟨hi,e⟩:=JQ h hl;rw[e];exact List.getElem_mem hi
theorem JR {objs:List Ob} {n k:Int} {o:Ob} (h:0 < n) (hl:n<=objs.length) (hk:0 < k):aF (objs.set (n-1).toNat o) k=if k=n then o else aF objs k:=by
 unfold aF;simp only[List.getD_eq_getElem?_getD,List.getElem?_set];by_cases V2:k=n
 ·subst V2;rw[if_pos rfl,if_pos (by omega),if_pos rfl];rfl
 ·rw[if_neg (by omega),if_neg V2]
theorem OL {u:aU} {objs:List Ob} {f:bU} {n i:Int} {v:Vl} (h:GW u objs f) (hn:0 < n) (hl:n<=objs.length) (hv:tD objs.length v):GW u (iQ objs n (putAt (aF objs n).bE i v)) f:=by
 have hlen:(iQ objs n (putAt (aF objs n).bE i v)).length=objs.length:=by simp[iQ]
 have hO:=h.zk _ (iw hn hl);refine⟨by rw[hlen];exact h.len,λo ho=>?_,λk h1 h2=>?_,by rw[hlen];exact h.jy⟩
 ·rw[hlen];unfold iQ at ho;rcases List.mem_or_eq_of_mem_set ho with ho|rfl
  ·exact h.zk o ho
  ·refine⟨λw hw=>?_,by simpa [putAt]using hO.2⟩;rcases List.mem_or_eq_of_mem_set hw with hw|rfl
   ·exact hO.1 w hw
   ·exact hv
 ·unfold iQ;rw[JR hn hl h1];split
  ·rename_i e;subst e;exact h.low k h1 h2
  ·exact h.low k h1 h2
theorem jV {objs:List Ob} {n:Int} {so:Bool} {o:Ob} (h:ef objs n so=.ok o):(0 < n->so=true)/\n≠0/\o=aF objs n:=by
 unfold ef at h;split at h
 ·cases h
 ·rename_i h1;split at h
  ·cases h
  ·rename_i h2;simp only[Except.ok.injEq]at h;refine⟨λhn=>?_,h2,h.symm⟩;cases so with
   | true=>rfl
   | false=>exact absurd ⟨hn,rfl⟩ h1
theorem C9 {objs:List Ob} {x:Vl} {k n:Int} {o:Ob} (h:qB objs x k n=.ok o):(0 < x.n->(aF objs x.n).cls=o7 k)/\x.n≠0/\o=aF objs x.n/\0<=n/\n < o.bE.length:=by
 unfold qB at h;split at h
 ·cases h
 ·rename_i o1 h1;obtain⟨a1,a2,rfl⟩:=jV h1;split at h
  ·rename_i h2;simp only[Except.ok.injEq]at h;subst h;exact⟨λhn=>by simpa using a1 hn,a2,rfl,h2⟩
  ·cases h
theorem sY {n:Nat} {l:List Vl} {i:Nat} (h:∀ v∈l,tD n v):tD n (l.getD i cJ):=by
 rw[List.getD_eq_getElem?_getD];cases hi:l[i]? with
 | none=>exact qC (by decide)
 | some v=>exact h v (List.mem_of_getElem? hi)
def uv (u:aU) (x:dX):Prop:=(x.kind=12\/x.kind=17\/x.kind=18\/x.kind=19->0<=x.a/\x.a < u.J.length)/\(x.kind=17\/x.kind=18->0<=x.b/\x.b < (cX u.J x.a).length)
theorem Hi {u:aU} {x:dX} {aS:List Vl} {objs o':List Ob} {f f':bU} (h:GW u objs f) (ht:pP u x aS objs.length) (hw:∀ v∈aS,tD objs.length v) (hx:uv u x)
  (hp:bH u x aS objs f=.ok (o',f')):GW u o' f'/\(o'.length=objs.length\/o'.length=objs.length+1)/\f'.ah=f.ah/\f'.pc=f.pc:=by
 obtain⟨kind,xa,xb⟩:=x;obtain⟨t13,t14,t15,t16,t17,t18,t19,tr⟩:=ht;simp only[uv]at t13 t14 t15 t16 t17 t18 t19 hx;have Wq:∀ v∈aS,v.ref=true->v.n≠0->0 < v.n/\v.n<=objs.length:=λv hv hr h0=>by have:=tr v hv hr;omega
 have uw:∀ {v:Vl} {f1:bU} {o1:List Ob},tD objs.length v->di objs f v=.ok (o1,f1)->GW u o1 f1/\(o1.length=objs.length\/o1.length=objs.length+1)/\f1.ah=f.ah/\f1.pc=f.pc:=by
  intro v f1 o1 hv hp;obtain⟨rfl,e2,e3,e4,_⟩:=uu h hv hp;exact⟨e2,.inl rfl,e3,e4⟩
 have Wr:∀ {k:Int} {types:List Int} {f1:bU} {o1:List Ob},((k = -1\/k = -2)/\types.length<=6)\/(0<=k/\k < u.J.length/\types.length=(cX u.J k).length)->uf k types objs f=.ok (o1,f1)->GW u o1 f1/\(o1.length=objs.length\/o1.length=objs.length+1)/\f1.ah=f.ah/\f1.pc=f.pc:=by
  intro k types f1 o1 hk hp;obtain⟨rfl,e2,e3,e4⟩:=Qs h hk hp;exact⟨e2,.inr (by simp),e3,e4⟩
 simp only[bH]at hp;by_cases JS:kind=12
 ·rw[if_pos JS]at hp;exact Wr (.inr ⟨(hx.1 (by simp[JS])).1,(hx.1 (by simp[JS])).2,rfl⟩) hp
 rw[if_neg JS]at hp;by_cases MT:kind=13
 ·rw[if_pos MT]at hp;split at hp
  ·exact Wr (.inl ⟨by unfold o7;split<;>simp,by rw[List.length_replicate];omega⟩) hp
  ·cases hp
 rw[if_neg MT]at hp;by_cases LP:kind=14
 ·rw[if_pos LP]at hp;obtain⟨a,rfl,hr⟩:=t14 LP;split at hp
  ·cases hp
  ·rename_i o h1;obtain⟨a1,a2,rfl⟩:=jV h1;have U:=Wq a (by simp) hr a2;have hO:=h.zk _ (iw U.1 U.2);have hc:=a1 U.1;simp only[List.getD_cons_zero,decide_eq_true_eq]at hc;refine uw ⟨λhr=>(by cases hr),λ_=>eT.2 ?_⟩ hp;simp only[List.getD_cons_zero];rcases hO.2 with ⟨_,h2⟩|⟨h2,_,_⟩
   ·omega
   ·omega
 rw[if_neg LP]at hp;by_cases LQ:kind=15
 ·rw[if_pos LQ]at hp;obtain⟨a,b,rfl,hr⟩:=t15 LQ;split at hp
  ·cases hp
  ·rename_i o h1;obtain⟨a1,a2,rfl,_⟩:=C9 h1;have U:=Wq a (by simp) hr a2;exact uw (sY (h.zk _ (iw U.1 U.2)).1) hp
 rw[if_neg LQ]at hp;by_cases LR:kind=16
 ·rw[if_pos LR]at hp;obtain⟨a,b,c,rfl,hr⟩:=t16 LR;split at hp
  ·cases hp
  ·rename_i o h1;obtain⟨a1,a2,rfl,_⟩:=C9 h1;have U:=Wq a (by simp) hr a2;simp only[Except.ok.injEq,Prod.mk.injEq]at hp;obtain⟨rfl,rfl⟩:=hp;exact⟨OL h U.1 U.2 (hw c (by simp)),.inl (by simp[iQ]),rfl,rfl⟩
 rw[if_neg LR]at hp;by_cases LS:kind=17
 ·rw[if_pos LS]at hp;obtain⟨a,rfl,hr⟩:=t17 LS;split at hp
  ·cases hp
  ·rename_i o h1;obtain⟨a1,a2,rfl⟩:=jV h1;have U:=Wq a (by simp) hr a2;exact uw (sY (h.zk _ (iw U.1 U.2)).1) hp
 rw[if_neg LS]at hp;by_cases LU:kind=18
 ·rw[if_pos LU]at hp;obtain⟨a,b,rfl,hr⟩:=t18 LU;split at hp
  ·cases hp
  ·rename_i o h1;obtain⟨a1,a2,rfl⟩:=jV h1;have U:=Wq a (by simp) hr a2;simp only[Except.ok.injEq,Prod.mk.injEq]at hp;obtain⟨rfl,rfl⟩:=hp;exact⟨OL h U.1 U.2 (hw b (by simp)),.inl (by simp[iQ]),rfl,rfl⟩
 rw[if_neg LU]at hp;by_cases MU:kind=19
 ·rw[if_pos MU]at hp;obtain⟨a,rfl,hr⟩:=t19 MU;split at hp
  ·cases hp
  ·exact uw (hw a (by simp)) hp
 rw[if_neg MU]at hp;simp only[Except.ok.injEq,Prod.mk.injEq]at hp;obtain⟨rfl,rfl⟩:=hp;exact⟨h,.inl rfl,rfl,rfl⟩
theorem Qt {u:aU} {x:dX} {cA aS rest:List Vl} {n:Nat} (ht:dB u x cA=some (aS,rest)) (hv:∀ v∈cA,tD n v):pP u x aS n:=by
 obtain⟨ws,me,hlen,ez,rfl⟩:=mq ht;obtain⟨kind,a,b⟩:=x;refine⟨λhk=>?_,λhk=>?_,λhk=>?_,λhk=>?_,λhk=>?_,λhk=>?_,λhk=>?_,λv hvt hr=>(hv v (by simp[hvt])).1 hr⟩;all_goals
  simp only at hk;subst hk;simp[cM]at me;subst me
 ·exact fG hlen
 ·obtain⟨v,rfl⟩:=fG hlen;exact⟨v,rfl,by simpa [iU]using ez⟩
 ·obtain⟨v,w,rfl⟩:=sV hlen;exact⟨v,w,rfl,by simp[iU]at ez;exact ez.1⟩
 ·obtain⟨v,w,z,rfl⟩:=C5 hlen;exact⟨v,w,z,rfl,by simp[iU]at ez;exact ez.1⟩
 ·obtain⟨v,rfl⟩:=fG hlen;exact⟨v,rfl,by simpa [iU]using ez⟩
 ·obtain⟨v,w,rfl⟩:=sV hlen;exact⟨v,w,rfl,by simp[iU]at ez;exact ez⟩
 ·obtain⟨v,rfl⟩:=fG hlen;exact⟨v,rfl,by simpa [iU]using ez⟩
theorem GW.loc {u:aU} {objs:List Ob} {f:bU} (h:GW u objs f) (i:Nat) {v:Vl} (hv:tD objs.length v):GW u objs {f with locals:=f.locals.set i v}:=by
 obtain⟨h1,h2,h3,h4,h5,h6⟩:=h.jy;refine⟨h.len,h.zk,h.low,h1,h2,by simpa using h3,h4,λw hw=>?_,h6⟩;rcases List.mem_or_eq_of_mem_set hw with hw|rfl
 ·exact h5 w hw
 ·exact hv
theorem vL {objs:List Ob} {f:bU} {said:List Int} {v:Vl} {r:List Ob × bU × List Int × Bool} (h:eV objs f said v=.ok r):∃ o g,di objs f v=.ok (o,g)/\r=(o,g,said,false):=by
 unfold eV at h;split at h
 ·rename_i o g hp;simp only[Except.ok.injEq]at h;exact⟨o,g,hp,h.symm⟩
 ·cases h
theorem MV {op a b:Int} : -128<=(gS op a b).1/\(gS op a b).1<=127:=by
 unfold gS;have:=pO (a+b);have:=pO (a-b);have:=pO (a*b);have:=pO (a.tdiv b);repeat' split
 all_goals simp only
 all_goals omega
theorem eH.vM {u:aU} {m:cB} {x:dX} (hx:eH u m x):uv u x:=by
 obtain⟨kind,a,b⟩:=x;refine⟨λhk=>?_,λhk=>?_⟩
 ·simp only at hk;rcases hk with rfl|rfl|rfl|rfl
  ·have:=(aI (p:=5) (q:=0) rfl).1 hx;simp[bA]at this;exact this.1
  ·have:=(aI (p:=5) (q:=8) rfl).1 hx;simp[bA]at this;exact this.1
  ·have:=(aI (p:=5) (q:=8) rfl).1 hx;simp[bA]at this;exact this.1
  ·have:=(aI (p:=5) (q:=0) rfl).1 hx;simp[bA]at this;exact this.1
 ·simp only at hk;rcases hk with rfl|rfl
  ·have:=(aI (p:=5) (q:=8) rfl).1 hx;simp[bA]at this;exact this.2
  ·have:=(aI (p:=5) (q:=8) rfl).1 hx;simp[bA]at this;exact this.2
theorem Qu {u:aU} {m:cB} {x:dX} {aS:List Vl} {objs o':List Ob} {f g:bU} {said jJ:List Int} {p9:Bool} (h:GW u objs f) (ht:pP u x aS objs.length) (hw:∀ v∈aS,tD objs.length v) (hx:eH u m x)
  (Yz:x.kind=24->∃ a,aS=[a]/\a.ref=false)
  (hp:gK u x aS objs f said=.ok (o',g,jJ,p9)):GW u o' g/\(o'.length=objs.length\/o'.length=objs.length+1)/\g.ah=f.ah/\g.pc=f.pc/\(jJ=said\/∃ w,isWord w=true/\jJ=said++[w])/\(p9=true->8<=x.kind/\x.kind<=11):=by
 have LV:=hx.vM;obtain⟨kind,xa,xb⟩:=x;have uw:∀ {v:Vl},tD objs.length v->eV objs f said v=.ok (o',g,jJ,p9)->GW u o' g/\(o'.length=objs.length\/o'.length=objs.length+1)/\g.ah=f.ah/\g.pc=f.pc/\(jJ=said\/∃ w,isWord w=true/\jJ=said++[w])/\(p9=true->8<=kind/\kind<=11):=by
  intro v hv hp;obtain⟨o1,g1,h1,e⟩:=vL hp;simp only[Prod.mk.injEq]at e;obtain⟨rfl,rfl,rfl,rfl⟩:=e;obtain⟨rfl,e2,e3,e4,_⟩:=uu h hv h1;exact⟨e2,.inl rfl,e3,e4,.inl rfl,λhx=>by cases hx⟩
 have Da:∀ {b:Bool},(b=true->8<=kind/\kind<=11)->(Except.ok (objs,f,said,b):RV)=.ok (o',g,jJ,p9)->GW u o' g/\(o'.length=objs.length\/o'.length=objs.length+1)/\g.ah=f.ah/\g.pc=f.pc/\(jJ=said\/∃ w,isWord w=true/\jJ=said++[w])/\(p9=true->8<=kind/\kind<=11):=by
  intro b U e;simp only[Except.ok.injEq,Prod.mk.injEq]at e;obtain⟨rfl,rfl,rfl,rfl⟩:=e;exact⟨h,.inl rfl,rfl,rfl,.inl rfl,U⟩
 simp only[gK]at hp;by_cases k1:kind=1
 ·rw[if_pos k1]at hp;subst k1;have:=(aI (p:=1) (q:=0) rfl).1 hx;simp[bA]at this;exact uw (qC (eT.1 this.1)) hp
 rw[if_neg k1]at hp;by_cases k2:kind=2
 ·rw[if_pos k2]at hp;exact uw ⟨λ_=>by simp,λhr=>by cases hr⟩ hp
 rw[if_neg k2]at hp;by_cases k3:kind=3
 ·rw[if_pos k3]at hp;exact uw (sY h.jy.2.2.2.2.1) hp
 rw[if_neg k3]at hp;by_cases k4:kind=4
 ·rw[if_pos k4]at hp;simp only[Except.ok.injEq,Prod.mk.injEq]at hp;obtain⟨rfl,rfl,rfl,rfl⟩:=hp;exact⟨h.loc _ (sY hw),.inl rfl,rfl,rfl,.inl rfl,λhx=>by cases hx⟩
 rw[if_neg k4]at hp;by_cases k5:kind=5
 ·rw[if_pos k5]at hp;exact Da (λhx=>by cases hx) hp
 rw[if_neg k5]at hp;by_cases k6:kind=6
 ·rw[if_pos k6]at hp;split at hp
  ·rename_i o1 g1 h1;obtain⟨rfl,e2,e3,e4,_⟩:=uu h (sY hw) h1;obtain⟨o2,g2,h2,e⟩:=vL hp;simp only[Prod.mk.injEq]at e;obtain⟨rfl,rfl,rfl,rfl⟩:=e;obtain⟨rfl,e2,e3',e4',_⟩:=uu e2 (sY hw) h2;exact⟨e2,.inl rfl,by rw[e3',e3],by rw[e4',e4],.inl rfl,λhx=>by cases hx⟩
  ·cases hp
 rw[if_neg k6]at hp;by_cases k7:kind=7
 ·rw[if_pos k7]at hp;split at hp
  ·exact uw (qC MV) hp
  ·cases hp
 rw[if_neg k7]at hp;by_cases k8:kind=8
 ·rw[if_pos k8]at hp;exact Da (λ_=>by omega) hp
 rw[if_neg k8]at hp;by_cases k9:kind=9
 ·rw[if_pos k9]at hp;exact Da (λ_=>by omega) hp
 rw[if_neg k9]at hp;by_cases D3:kind=10
 ·rw[if_pos D3]at hp;exact Da (λ_=>by omega) hp
 rw[if_neg D3]at hp;by_cases OM:kind=11
 ·rw[if_pos OM]at hp;exact Da (λ_=>by omega) hp
 rw[if_neg OM]at hp;by_cases Db:kind=24
 ·rw[if_pos Db]at hp;obtain⟨a,rfl,hr⟩:=Yz Db;simp only[Except.ok.injEq,Prod.mk.injEq]at hp;obtain⟨rfl,rfl,rfl,rfl⟩:=hp;exact⟨h,.inl rfl,rfl,rfl,.inr ⟨a.n,(hw a (by simp)).2 hr,rfl⟩,λhx=>by cases hx⟩
 rw[if_neg Db]at hp;split at hp
 ·rename_i o1 g1 h1;simp only[Except.ok.injEq,Prod.mk.injEq]at hp;obtain⟨rfl,rfl,rfl,rfl⟩:=hp;obtain⟨e1,e2,e3,e4⟩:=Hi h ht hw LV h1;exact⟨e1,e2,e3,e4,.inl rfl,λhx=>by cases hx⟩
 ·cases hp
theorem Ab {u:aU} {c pc:Int}:∀ {l:List mU} {k:mU},mh u c pc l=some k->k∈l/\(k.lo<=pc/\pc < k.hi)/\up u.J c k.cls=true
 | [],_,h=>by cases h
 | m::r,k,h=>by
  rw[mh]at h;split at h
  ·rename_i hc;simp only[Option.some.injEq]at h;subst h;exact⟨by simp,hc.1,hc.2⟩
  ·obtain⟨h1,h2⟩:=Ab h;exact⟨by simp[h1],h2⟩
def xm (u:aU) (g k:bU):Prop:=g.pc < (br u g.ah).code.length /\
 ((((br u g.ah).code.getD g.pc.toNat dW).kind=20/\((br u g.ah).code.getD g.pc.toNat dW).a=k.ah) \/
  (((br u g.ah).code.getD g.pc.toNat dW).kind=21/\0<=(br u k.ah).cls/\(br u k.ah).eL=((br u g.ah).code.getD g.pc.toNat dW).b))
def mC (u:aU) (l:List bU):Prop:=∀ gs g k hs,l=gs++g::k::hs->xm u g k
theorem mC.pre {u:aU} {a b:List bU} (h:mC u (a++b)):mC u a:=λgs g k hs e=>h gs g k (hs++b) (by rw[e];simp)
theorem mC.last {u:aU} {fs:List bU} {f f':bU} (h:mC u (fs++[f])) (hm:f'.ah=f.ah):mC u (fs++[f']):=by
 intro gs g k hs e;rcases List.eq_nil_or_concat hs with rfl|⟨OJ,z,rfl⟩
 ·have e':fs++[f']=(gs++[g])++[k]:=by rw[e];simp
  obtain⟨rfl,e2⟩:=List.append_inj' e' rfl;simp only[List.cons.injEq,and_true]at e2;subst e2;have:=h gs g f [] (by simp);unfold xm at this ⊢;rw[hm];exact this
 ·have e':fs++[f']=(gs++g::k::OJ)++[z]:=by rw[e];simp
  obtain⟨rfl,e2⟩:=List.append_inj' e' rfl;exact h gs g k (OJ++[f]) (by simp)
theorem mC.push {u:aU} {fs:List bU} {f k:bU} (h:mC u (fs++[f])) (hc:xm u f k):mC u (fs++[f]++[k]):=by
 intro gs g k' hs e;rcases List.eq_nil_or_concat hs with rfl|⟨OJ,z,rfl⟩
 ·have e':fs++[f]++[k]=(gs++[g])++[k']:=by rw[e];simp
  obtain⟨e1,e2⟩:=List.append_inj' e' rfl;obtain⟨_,e3⟩:=List.append_inj' e1 rfl;simp only[List.cons.injEq,and_true]at e2 e3;subst e2 e3;exact hc
 ·have e':fs++[f]++[k]=(gs++g::k'::OJ)++[z]:=by rw[e];simp
  obtain⟨e1,_⟩:=List.append_inj' e' rfl;exact h gs g k' OJ e1
theorem wF {u:aU} {c n:Int}:∀ {l l':List bU},vH u c n l=some l'->∃ l1 f r k,l=l1++f::r/\k∈(br u f.ah).catches/\l' = {f with pc:=k.to,stack:=[⟨true,n⟩]}::r
 | [],_,h=>by cases h
 | f::r,l',h=>by
  rw[vH]at h;split at h
  ·rename_i t ht;simp only[Option.some.injEq]at h;exact⟨[],f,r,t,rfl,(Ab ht).1,h.symm⟩
  ·obtain⟨l1,g,r',k,rfl,h2,h3⟩:=wF h;exact⟨f::l1,g,r',k,rfl,h2,h3⟩
theorem JT {u:aU} (hu:eC u) {c n:Int} {k:Nat} (hn:0<=n/\n<=k) {l l':List bU} (h:vH u c n l=some l') (hf:∀ f∈l,EW u k f):l'≠[]/\l'.length<=l.length/\(∀ f∈l',EW u k f)/\(mC u l.reverse->mC u l'.reverse):=by
 obtain⟨l1,f,r,t,rfl,ht,rfl⟩:=wF h;refine⟨by simp,by simp,λg hg=>?_,λhl=>?_⟩
 ·rcases List.mem_cons.1 hg with rfl|hg
  ·obtain⟨h1,h2,h3,h4,h5,h6⟩:=hf f (by simp);have hc:=(hu.br h1).2.2.2 t ht;have:=hc.1;refine⟨h1,⟨by show 0<=t.to;omega,by show t.to<=((br u f.ah).code.length:Int);omega⟩,h3,by simp,h5,λv hv=>?_⟩;simp only[List.mem_singleton]at hv;subst hv;exact⟨λ_=>hn,λhr=>by cases hr⟩
  ·exact hf g (by simp[hg])
 ·have e:(l1++f::r).reverse=(r.reverse++[f])++l1.reverse:=by simp
  rw[e]at hl;have:=hl.pre.last (f':={f with pc:=t.to,stack:=[⟨true,n⟩]}) rfl;simpa using this
theorem Dc {u:aU} (hu:eC u) {M:bZ} (h:zC u M) (eZ:M.fin=0) {n:Int} (hn:0 < n/\n<=M.objs.length):zC u (cK u n M)/\(mC u M.ag->mC u (cK u n M).ag):=by
 have eU:M.out=cJ:=by
  rcases h.fin with h1|h1|h1
  ·exact h1.2.2
  ·omega
  ·omega
 unfold cK;split
 ·rename_i l hl;obtain⟨h1,h2,h3,h4⟩:=JT hu (k:=M.objs.length) (by omega) hl (λf hf=>h.jy f (by simpa using hf));refine⟨⟨h.steps,h.len,?_,h.pU,h.out,h.objs,h.low,λf hf=>h3 f (by simpa using hf),h.said,.inl ⟨.inl eZ,by simpa using h1,eU⟩⟩,by simpa using h4⟩;have:=h.nf;simp only[List.length_reverse]at h2 ⊢;omega
 ·refine⟨⟨h.steps,h.len,by simp,h.pU,⟨λ_=>⟨by show 0<=n;omega,hn.2⟩,λhr=>by cases hr⟩,h.objs,h.low,λf hf=>(by cases hf),h.said,.inr (.inr ⟨rfl,rfl,rfl,by show 1<=n;omega⟩)⟩,λ_ gs g k hs e=>?_⟩;have:=congrArg List.length e;simp at this
theorem Ga {u:aU} {M M':bZ} {to:Int} {aS:List Vl} (h:zC u M) (eZ:M.fin=0) (Il:0<=to/\to < u.methods.length) (hl:(aS.length:Int)<=(br u to).locals) (hw:∀ v∈aS,tD M.objs.length v) {fs:List bU} {f:bU} (gA:M.ag=fs++[f]) (hk:mC u M.ag) (hc:xm u f (gW u to aS)) (hp:jI u to aS M=.ok M'):zC u M'/\mC u M'.ag/\M'.steps=M.steps:=by
 have eU:M.ag≠[]/\M.out=cJ:=by
  rcases h.fin with h1|h1|h1
  ·exact h1.2
  ·omega
  ·omega
 unfold jI at hp;split at hp
 ·cases hp
 ·rename_i h4;simp only[Except.ok.injEq]at hp;subst hp;refine⟨⟨h.steps,h.len,by simp;omega,h.pU,h.out,h.objs,h.low,λf hf=>?_,h.said,.inl ⟨.inl eZ,by simp,eU.2⟩⟩,?_,rfl⟩;rotate_left
  ·show mC u (M.ag++[gW u to aS]);rw[gA]at hk ⊢;exact hk.push hc
  simp only[List.mem_append,List.mem_singleton]at hf;rcases hf with hf|rfl
  ·exact h.jy f hf
  ·refine⟨Il,⟨by simp[gW],by simp[gW]⟩,?_,by simp[gW],λv hv=>?_,λv hv=>by simp[gW]at hv⟩
   ·simp only[gW,List.length_append,List.length_replicate];omega
   ·simp only[gW,List.mem_append]at hv;rcases hv with hv|hv
    ·exact hw v hv
    ·rw[List.eq_of_mem_replicate hv];exact qC (by decide)
theorem Ws {u:aU} (hu:eC u) {M M':bZ} {fs:List bU} {f:bU} (h:zC u M) (eZ:M.fin=0) (hf:M.ag=fs++[f]) (hs:M.said.length < 200) (ho:M.objs.length < 207) (BZ:mC u M.ag) (hp:lz u fs f M=.ok M'):zC u M'/\mC u M'.ag/\M'.steps=M.steps:=by
 have G7:f∈M.ag:=by rw[hf];simp
 have hF:=h.jy f G7;have hmT:=hu.br hF.1;have eU:M.out=cJ:=by
  rcases h.fin with h1|h1|h1
  ·exact h1.2.2
  ·omega
  ·omega
 unfold lz at hp;simp only at hp;split at hp
 ·cases hp
 rename_i D0;have cG:f.pc.toNat < (br u f.ah).code.length:=by have:=hF.2.1.1;omega
 have II:(br u f.ah).code[f.pc.toNat]∈(br u f.ah).code:=List.getElem_mem _;have jz:(br u f.ah).code.getD f.pc.toNat dW=(br u f.ah).code[f.pc.toNat]:=by simp[cG]
 have kK:=hmT.2.1.2.2.2.1 _ II;rw[jz]at hp;generalize hxe:(br u f.ah).code[f.pc.toNat]=x at II kK hp;split at hp
 ·cases hp
 rename_i aS rest ht;have dZ:=mq ht;obtain⟨ws,me,BV,ez,hsk⟩:=dZ;have JG:∀ v∈rest,tD M.objs.length v:=λv hv=>hF.2.2.2.2.2 v (by rw[hsk];simp[hv]);have Ac:∀ v∈aS,tD M.objs.length v:=λv hv=>hF.2.2.2.2.2 v (by rw[hsk];simp[hv]);have LW:rest.length<=4:=by have:=hF.2.2.2.1;rw[hsk]at this;simp at this;omega
 have YA:EW u M.objs.length {f with stack:=rest}:=⟨hF.1,hF.2.1,hF.2.2.1,LW,hF.2.2.2.2.1,JG⟩
 have hG1:GW u M.objs {f with stack:=rest}:=⟨h.len.1,h.objs,h.low,YA⟩
 have sF:∀ g∈fs,EW u M.objs.length g:=λg hg=>h.jy g (by rw[hf];simp[hg]);have OC:fs.length+1<=4:=by have:=h.nf;rw[hf]at this;simpa using this
 have A3:zC u {M with ag:=fs++[{f with stack:=rest}]}:=⟨h.steps,h.len,by simpa using OC,h.pU,h.out,h.objs,h.low,λg hg=>by
  simp only[List.mem_append,List.mem_singleton]at hg;rcases hg with hg|rfl
  ·exact sF g hg
  ·exact YA,h.said,.inl ⟨.inl eZ,by simp,eU⟩⟩
 have hT:=Qt ht hF.2.2.2.2.2;rw[hf]at BZ;have Qv:mC u (fs++[{f with stack:=rest}]):=BZ.last rfl;have hxg:(br u f.ah).code.getD f.pc.toNat dW=x:=by rw[jz];exact hxe
 split at hp
 ·rename_i hk;obtain⟨kind,a,b⟩:=x;simp only[jk]at hp hk;by_cases MW:kind=20
  ·rw[if_pos MW]at hp;subst MW;have:=(aI (p:=7) (q:=0) rfl).1 kK;simp[bA]at this;have ha:=this.1.1;have Hg:=(hu.br ha).1;have BY:=Hg.2.2.2.2.2;rw[vK,if_neg (by omega)]at BY;simp[cM]at me;subst me;have rV:(aS.length:Int)<=(br u a).locals:=by rw[BV];simp;omega
   have vw:((br u f.ah).code.getD f.pc.toNat dW).kind=20/\((br u f.ah).code.getD f.pc.toNat dW).a=a:=by rw[hxg];exact⟨rfl,rfl⟩
   have iM:=Ga A3 eZ ha rV Ac rfl Qv ⟨(by show f.pc < ((br u f.ah).code.length:Int);omega),.inl vw⟩ hp;exact iM
  rw[if_neg MW]at hp;by_cases MX:kind=21
  ·rw[if_pos MX]at hp;subst MX;split at hp
   ·cases hp
   rename_i o h1;obtain⟨a1,a2,rfl⟩:=jV h1;simp[cM]at me;have jN:aS.length=(br u (find u a b)).args.length+1:=by rw[BV,<-me.2];simp
   obtain⟨v,r,rfl⟩:∃ v r,aS=v::r:=by
    cases aS with
    | nil=>simp at jN
    | cons v r=>exact⟨v,r,rfl⟩
   have hr:v.ref=true:=by rw[<-me.2]at ez;simp[iU]at ez;exact ez.1
   simp only[List.getD_cons_zero]at a1 a2 hp;have U:=(Ac v (by simp)).1 hr;have zW:=a1 (by omega);have hO:=h.objs _ (iw (objs:=M.objs) (n:=v.n) (by omega) U.2);have lq:(aF M.objs v.n).cls < u.J.length:=by
    rcases hO.2 with ⟨h2,_⟩|⟨_,h2,_⟩
    ·have:=hu.1.1;omega
    ·exact h2
   have hsend:=Aa hu hF.1 ⟨21,a,b⟩ (v::r) rest _ II rfl ht lq zW;have LB:=ur hu.1 (s:=b) ((aF M.objs v.n).cls.toNat+1) (c:=(aF M.objs v.n).cls) (by omega) lq hsend.1;have vw:((br u f.ah).code.getD f.pc.toNat dW).kind=21/\0<=(br u (find u (aF M.objs v.n).cls b)).cls/\(br u (find u (aF M.objs v.n).cls b)).eL=((br u f.ah).code.getD f.pc.toNat dW).b:=by
    rw[hxg];exact⟨rfl,wE hu.1 lq hsend.1,LB.2.1⟩
   have iM:=Ga A3 eZ ⟨hsend.1,(ji u _ _).2⟩ hsend.2.1 Ac rfl Qv ⟨(by show f.pc < ((br u f.ah).code.length:Int);omega),.inr vw⟩ hp;exact iM
  rw[if_neg MX]at hp;by_cases D4:kind=22
  ·rw[if_pos D4]at hp;subst D4;have hv:tD M.objs.length (aS.getD 0 cJ):=sY Ac;rcases List.eq_nil_or_concat fs with rfl|⟨gs,g,rfl⟩
   ·rw[z8]at hp;simp only[Except.ok.injEq]at hp;subst hp;exact⟨⟨h.steps,h.len,by simp,h.pU,hv,h.objs,h.low,λf hf=>(by cases hf),h.said,.inr (.inl ⟨rfl,rfl⟩)⟩,λgs g k hs e=>(by have:=congrArg List.length e;simp at this),rfl⟩
   ·rw[List.concat_eq_append,rF]at hp;split at hp
    ·rename_i h4;simp only[Except.ok.injEq]at hp;subst hp;have hg:=sF g (by simp);have hcg:=BZ gs g f [] (by simp);rw[List.concat_eq_append]at BZ;refine⟨⟨h.steps,h.len,by simp at OC ⊢;omega,h.pU,h.out,h.objs,h.low,λk hk=>?_,h.said,.inl ⟨.inl eZ,by simp,eU⟩⟩,BZ.pre.last rfl,rfl⟩;simp only[List.mem_append,List.mem_singleton]at hk;rcases hk with hk|rfl
     ·exact sF k (by simp[hk])
     ·obtain⟨h1,h2,h3,h5,h6,h7⟩:=hg;refine⟨h1,⟨by show 0<=g.pc+1;omega,by show g.pc+1<=((br u g.ah).code.length:Int);have:=hcg.1;omega⟩,h3,by simp;omega,h6,λw hw=>?_⟩;simp only[List.mem_append,List.mem_singleton]at hw;rcases hw with hw|rfl
      ·exact h7 w hw
      ·exact hv
    ·cases hp
  rw[if_neg D4]at hp;have JU:kind=23:=by omega
  subst JU;simp only[if_true]at hp;split at hp
  ·cases hp
  ·rename_i o h1;obtain⟨a1,a2,rfl⟩:=jV h1;simp only[Except.ok.injEq]at hp;subst hp;simp[cM]at me;subst me;obtain⟨v,rfl⟩:=fG BV;have hr:v.ref=true:=by simpa [iU]using ez
   simp only[List.getD_cons_zero]at a2 ⊢;have U:=(Ac v (by simp)).1 hr;have dD:=Dc hu A3 eZ (n:=v.n) ⟨by omega,U.2⟩;exact⟨dD.1,dD.2 Qv,by unfold cK;split<;>rfl⟩
 ·rename_i hk;split at hp
  ·cases hp
  ·rename_i objs g said p9 hm;simp only[Except.ok.injEq]at hp;subst hp;obtain⟨e1,e2,e3,e4,e5,e6⟩:=Qu hG1 hT Ac kK (λYz=>by
    obtain⟨kind,a,b⟩:=x;simp only at Yz;subst Yz;simp[cM]at me;subst me;obtain⟨v,rfl⟩:=fG BV;exact⟨v,rfl,by simpa [iU]using ez⟩) hm
   have hle:M.objs.length<=objs.length:=by omega
   refine⟨⟨h.steps,⟨e1.len,by show objs.length<=207;have:=h.len.2;omega⟩,by simpa using OC,?_,h.out.mono hle,e1.zk,e1.low,λk hk=>?_,?_,.inl ⟨.inl eZ,by simp,eU⟩⟩,BZ.last e3,rfl⟩
   ·rcases e5 with rfl|⟨w,_,rfl⟩
    ·exact h.pU
    ·simp;omega
   ·simp only[List.mem_append,List.mem_singleton]at hk;rcases hk with hk|rfl
    ·exact(sF k hk).mono hle
    ·obtain⟨h1,h2,h3,h4,h5,h6⟩:=e1.jy;refine⟨h1,?_,h3,h4,h5,h6⟩;simp only at e3;simp only[e3];split
     ·rename_i hg;have Qw:=e6 hg;obtain⟨kind,a,b⟩:=x;simp only at Qw;have hk4:kind=8\/kind=9\/kind=10\/kind=11:=by omega
      have ha:0<=a/\a < (br u f.ah).code.length:=by
       rcases hk4 with rfl|rfl|rfl|rfl;all_goals
        have:=(aI (p:=4) (q:=0) rfl).1 kK;simp[bA]at this;exact this.1
      exact⟨ha.1,by show a<=_;omega⟩
     ·have:=hF.2.1;exact⟨by omega,by omega⟩
   ·intro n hn;rcases e5 with rfl|⟨w,hw,rfl⟩
    ·exact h.said n hn
    ·simp only[List.mem_append,List.mem_singleton]at hn;rcases hn with hn|rfl
     ·exact h.said n hn
     ·exact hw
theorem vN {objs:List Ob} {f:bU} {v:Vl} {k:Int} (h:di objs f v=.error k):k=0:=by
 unfold di at h;split at h
 ·cases h
 ·simpa using h.symm
theorem Hj {objs:List Ob} {f:bU} {said:List Int} {v:Vl} {k:Int} (h:eV objs f said v=.error k):k=0:=by
 unfold eV at h;split at h
 ·cases h
 ·rename_i e he;simp only[Except.error.injEq]at h;subst h;exact vN he
theorem sZ {objs:List Ob} {n:Int} {so:Bool} {k:Int} (h:ef objs n so=.error k):k=0\/k=2:=by
 unfold ef at h;split at h
 ·exact .inl (by simpa using h.symm)
 ·split at h
  ·exact .inr (by simpa using h.symm)
  ·cases h
theorem JV {objs:List Ob} {x:Vl} {a n k:Int} (h:qB objs x a n=.error k):k=0\/k=2\/k=3:=by
 unfold qB at h;split at h
 ·rename_i e he;simp only[Except.error.injEq]at h;subst h;rcases sZ he with h|h
  ·exact .inl h
  ·exact .inr (.inl h)
 ·split at h
  ·cases h
  ·exact .inr (.inr (by simpa using h.symm))
def Bh (k:Int):Prop:=k=0\/0 < k/\k<=7
theorem Dd {u:aU} {x:dX} {aS:List Vl} {objs:List Ob} {f:bU} {k:Int} (h:bH u x aS objs f=.error k):Bh k:=by
 unfold bH at h;simp only[uf]at h;repeat' split at h
 all_goals first
  | (cases h;done)
  | (have:=vN h;unfold Bh;omega)
  | (rename_i e he;simp only[Except.error.injEq]at h;subst h;first|(have:=sZ he;unfold Bh;omega)|(have:=JV he;unfold Bh;omega))
  | (simp only[Except.error.injEq]at h;unfold Bh;omega)
theorem JW {u:aU} {x:dX} {aS:List Vl} {objs:List Ob} {f:bU} {said:List Int} {k:Int} (h:gK u x aS objs f said=.error k):Bh k:=by
 have hp:∀ {f1:bU} {v:Vl},eV objs f1 said v=.error k->Bh k:=λh=>by have:=Hj h;unfold Bh;omega
 unfold gK at h;simp only at h;by_cases k1:x.kind=1
 ·rw[if_pos k1]at h;exact hp h
 rw[if_neg k1]at h;by_cases k2:x.kind=2
 ·rw[if_pos k2]at h;exact hp h
 rw[if_neg k2]at h;by_cases k3:x.kind=3
 ·rw[if_pos k3]at h;exact hp h
 rw[if_neg k3]at h;by_cases k4:x.kind=4
 ·rw[if_pos k4]at h;cases h
 rw[if_neg k4]at h;by_cases k5:x.kind=5
 ·rw[if_pos k5]at h;cases h
 rw[if_neg k5]at h;by_cases k6:x.kind=6
 ·rw[if_pos k6]at h;split at h
  ·exact hp h
  ·rename_i e he;simp only[Except.error.injEq]at h;subst h;have:=vN he;unfold Bh;omega
 rw[if_neg k6]at h;by_cases k7:x.kind=7
 ·rw[if_pos k7]at h;split at h
  ·exact hp h
  ·simp only[Except.error.injEq]at h;unfold Bh;omega
 rw[if_neg k7]at h;by_cases k8:x.kind=8
 ·rw[if_pos k8]at h;cases h
 rw[if_neg k8]at h;by_cases k9:x.kind=9
 ·rw[if_pos k9]at h;cases h
 rw[if_neg k9]at h;by_cases D3:x.kind=10
 ·rw[if_pos D3]at h;cases h
 rw[if_neg D3]at h;by_cases OM:x.kind=11
 ·rw[if_pos OM]at h;cases h
 rw[if_neg OM]at h;by_cases Db:x.kind=24
 ·rw[if_pos Db]at h;cases h
 rw[if_neg Db]at h;split at h
 ·cases h
 ·rename_i e he;simp only[Except.error.injEq]at h;subst h;exact Dd he
theorem Hl {u:aU} {to:Int} {aS:List Vl} {M:bZ} {k:Int} (h:jI u to aS M=.error k):Bh k:=by
 unfold jI at h;split at h
 ·simp only[Except.error.injEq]at h;unfold Bh;omega
 ·cases h
theorem EX {u:aU} {x:dX} {aS:List Vl} {fs:List bU} {M:bZ} {k:Int} (h:jk u x aS fs M=.error k):Bh k:=by
 unfold jk at h;simp only[uj]at h;repeat' split at h
 all_goals first
  | (cases h;done)
  | exact Hl h
  | (rename_i e he;simp only[Except.error.injEq]at h;subst h;have:=sZ he;unfold Bh;omega)
  | (simp only[Except.error.injEq]at h;unfold Bh;omega)
theorem Bj {u:aU} {fs:List bU} {f:bU} {M:bZ} {k:Int} (h:lz u fs f M=.error k):Bh k:=by
 unfold lz at h;simp only at h;split at h
 ·simp only[Except.error.injEq]at h;unfold Bh;omega
 ·split at h
  ·simp only[Except.error.injEq]at h;unfold Bh;omega
  ·split at h
   ·exact EX h
   ·split at h
    ·rename_i e he;simp only[Except.error.injEq]at h;subst h;exact JW he
    ·cases h
theorem pz {u:aU} {n:Int} {M:bZ}:(cK u n M).steps=M.steps:=by unfold cK;split<;>rfl
theorem De {u:aU} {to:Int} {aS:List Vl} {M M':bZ} (h:jI u to aS M=.ok M'):M'.steps=M.steps:=by
 unfold jI at h;split at h
 ·cases h
 ·simp only[Except.ok.injEq]at h;subst h;rfl
theorem Ad {u:aU} {fs:List bU} {f:bU} {M M':bZ} (h:lz u fs f M=.ok M'):M'.steps=M.steps:=by
 unfold lz at h;simp only at h;split at h
 ·cases h
 ·split at h
  ·cases h
  ·split at h
   ·unfold jk at h;simp only[uj]at h;repeat' split at h
    all_goals first
     | (cases h;done)
     | (have:=De h;exact this)
     | (simp only[Except.ok.injEq]at h;subst h;first|rfl|exact pz)
   ·split at h
    ·cases h
    ·simp only[Except.ok.injEq]at h;subst h;rfl
theorem zC.Qx {u:aU} (hu:eC u) {M:bZ} (h:zC u M) (eZ:M.fin=0):JJ u M where
 inv:=h.inv
 jy _:=by
  rcases h.fin with h1|h1|h1
  ·exact h1.2.1
  ·omega
  ·omega
 send f hf:=Aa hu (h.jy f hf).1
 fault fs f k _ hd:=Bj hd
 cls k h1 h2:=by rw[h.low k h1 h2];have:=hu.1.1;omega
 steps:=h.steps
 JK fs f M' _ hd:=Ad hd
theorem MY {u:aU} (hu:eC u) {M:bZ} (h:zC u M) (BZ:mC u M.ag):zC u (gY u M)/\mC u (gY u M).ag:=by
 unfold gY;split
 ·exact⟨h,BZ⟩
 rename_i hg;split
 ·exact⟨h,BZ⟩
 rename_i f sP;have gA:M.ag=M.ag.dropLast++[f]:=by
  have cD:M.ag≠[]:=by intro hx;rw[hx]at sP;cases sP
  have:=List.dropLast_concat_getLast cD;rw[List.getLast?_eq_some_getLast cD]at sP;simp only[Option.some.injEq]at sP;rw[sP]at this;exact this.symm
 have eZ:M.fin=0:=by omega
 have dZ:=h.steps;have up:∀ {N:bZ},zC u N->N.steps=M.steps->zC u {N with steps:=N.steps+1}:=λ{N} hN e =>
  ⟨by show 0<=N.steps+1/\N.steps+1<=200;omega,hN.len,hN.nf,hN.pU,hN.out,hN.objs,hN.low,hN.jy,hN.said,hN.fin⟩
 split
 ·rename_i M' hd;obtain⟨h1,h2,h3⟩:=Ws hu h eZ gA (by omega) (by omega) BZ hd;exact⟨up h1 h3,h2⟩
 ·rename_i k hd;split
  ·refine⟨⟨by show 0<=M.steps+1/\M.steps+1<=200;omega,h.len,h.nf,h.pU,h.out,h.objs,h.low,h.jy,h.said,?_⟩,BZ⟩;rcases h.fin with h1|h1|h1
   ·exact .inl ⟨.inr rfl,h1.2⟩
   ·omega
   ·omega
  ·rename_i hk;have sP:=Bj hd;have dD:=Dc hu h eZ (n:=k) (by have:=h.len.1;unfold Bh at sP;omega);exact⟨up dD.1 pz,dD.2 BZ⟩
theorem JX {cs:List dR} (ok:cj cs):cX cs 1=[1]:=by
 have h2:=ok.1;have h1:(1:Nat) < cs.length:=by omega
 have hc:=ok.2.2 1 h1;have hs:bC cs 1=cs[1].bN:=lY h1;rw[lH ok (by omega) (by omega),hs,(hc.2.2.1 rfl).1,eO (by omega)];have:iP cs 1=cs[1].fields:=by simp[iP,h1]
 rw[this,(hc.2.2.1 rfl).2];rfl
theorem Qy {u:aU} (hu:eC u):zC u (ny u)/\mC u (ny u).ag:=by
 have hm:=hu.br (k:=0) (by have:=hu.2.1.1;omega);have hh:=hm.1;have zB:0<=(br u 0).locals:=by have:=hh.2.2.2.2.2;omega
 refine⟨⟨by simp[ny],by simp[ny,gE],by simp[ny],by simp[ny],qC (by decide),λo ho=>?_,λk h1 h2=>?_,λf hf=>?_,λn hn=>(by cases hn),.inl ⟨.inl rfl,by simp[ny],rfl⟩⟩,λgs g k hs e=>?_⟩
 ·simp only[ny,gE,List.mem_map,List.mem_range]at ho;obtain⟨i,hi,rfl⟩:=ho;refine⟨λv hv=>?_,.inr ⟨by simp[m5],by have:=hu.1.1;simp only[m5];omega,by simp only[m5];rw[JX hu.1];rfl⟩⟩;simp only[m5,List.mem_singleton]at hv;subst hv;exact qC (by omega)
 ·have hk:k=1\/k=2\/k=3\/k=4\/k=5\/k=6\/k=7:=by omega
  rcases hk with rfl|rfl|rfl|rfl|rfl|rfl|rfl<;>rfl
 ·simp only[ny,List.mem_singleton]at hf;subst hf;refine⟨⟨by simp,by have:=hu.2.1.1;simp only;omega⟩,⟨by simp,by simp⟩,by simp only[List.length_replicate];omega,by simp,λv hv=>?_,λv hv=>by cases hv⟩;rw[List.eq_of_mem_replicate hv];exact qC (by decide)
 ·have:=congrArg List.length e;simp[ny]at this;omega
structure Sx where
 objs:List Ob
 fs:List bU
 f:bU
 said:List Int
 steps:Int
 fin:Int
 out:Vl
 st:Bool
 ft:Int
def Sx.Bm (x:Sx):bZ:=⟨x.objs,x.fs++[x.f],x.said,x.steps,x.fin,x.out⟩
structure XM (h0 h:Heap) (bx:Nat) (us:List Value) (u:aU) (M:bZ) (st:Bool) (ft:Int) (B:List Nat):Prop where
 ma:gz h0 h bx us [.bool st,.int .i64 ft] M B
 un:dL h0 us u
abbrev XS (h0 h:Heap) (bx:Nat) (us:List Value) (u:aU) (x:Sx) (B:List Nat):Prop:=XM h0 h bx us u x.Bm x.st x.ft B
def Tp (h:Heap) (bx n bf:Nat):Prop:=∃ c,rd h bx 3=some (.slice (some ⟨bf,0,none⟩) (n+1) c)
def XR (h0 h:Heap) (bx:Nat) (us:List Value) (u:aU) (B:List Nat) (y:Sx) (h':Heap):Prop:=∃ B',XS h0 h' bx us u y B'/\Ev h h' (bx::B) (bx::B')/\rd h' bx 3=rd h bx 3
theorem XR.trans {h0 h h1 h2:Heap} {bx:Nat} {us:List Value} {u:aU} {B B1:List Nat} {y:Sx} (ev:Ev h h1 (bx::B) (bx::B1)) (e:rd h1 bx 3=rd h bx 3) (hr:XR h0 h1 bx us u B1 y h2):XR h0 h bx us u B y h2:=by
 obtain⟨B',a,b,c⟩:=hr;exact⟨B',a,ev.trans b,c.trans e⟩
theorem gz.MZ {h0 h:Heap} {bm:Nat} {pre post:List Value} {M:bZ} {B:List Nat} (hM:gz h0 h bm pre post M B) :
  ∃ mc t,h bm=some (.cells (pre++mc++post).toArray t (0,0))/\mc.length=7/\∀ Gc,gz h0 (h.set bm (.cells (pre++mc++Gc).toArray t (0,0))) bm pre Gc M B/\Ev h (h.set bm (.cells (pre++mc++Gc).toArray t (0,0))) (bm::B) (bm::B):=by
 have hM0:=hM;obtain⟨le,⟨mc,t,U,own⟩,nd,fr⟩:=hM;have sH:bm ∉ B:=by
  intro hx;have h1:=List.count_pos_iff.2 hx;have h3:=nd bm;simp only[List.count_cons,beq_self_eq_true,if_true]at h3;omega
 have hlen:mc.length=7:=by obtain⟨_,_,_,_,_,_,rfl,_⟩:=own;rfl
 refine⟨mc,t,U,hlen,λGc=>⟨⟨Heap.aM le (fr bm (by simp)),⟨mc,t,cZ _ _ _,own.aG λb eX o ho=>?_⟩,nd,fr⟩,⟨λb eX hn=>?_,λb U=>.inl U⟩⟩⟩
 ·have:b≠bm:=by rintro rfl;exact sH eX
  simp only[Heap.set,this,if_false];exact ho
 ·have:b≠bm:=λhx=>hn (by simp[hx]);simp only[Heap.set,this,if_false]
theorem XM.Gd {h0 h:Heap} {bx:Nat} {us:List Value} {u:aU} {M:bZ} {st:Bool} {ft:Int} {B:List Nat} (hX:XM h0 h bx us u M st ft B):us.length=2:=by
 obtain⟨p,cc,q,d,rfl,_⟩:=hX.un.form;rfl
theorem XM.kT {h0 h:Heap} {bx:Nat} {us:List Value} {u:aU} {M:bZ} {st:Bool} {ft:Int} {B:List Nat} (hX:XM h0 h bx us u M st ft B) :
  rd h bx 9=some (.bool st)/\rd h bx 10=some (.int .i64 ft)/\(∃ p c,rd h bx 2=some (.slice p M.objs.length c))/\(∃ p c,rd h bx 3=some (.slice p M.ag.length c))/\(∃ p c,rd h bx 4=some (.slice p M.said.length c)) /\
   ∃ p c q d,us=[.slice p u.J.length c,.slice q u.methods.length d]/\rd h bx 0=some (.slice p u.J.length c)/\rd h bx 1=some (.slice q u.methods.length d)/\eG h bx 0 2=some [.slice p u.J.length c,.slice q u.methods.length d] /\
    fo h (.slice p u.J.length c) u.J/\Row 8 ee h (.slice q u.methods.length d) u.methods:=by
 obtain⟨t,vo,vf,vs,U,⟨p1,c1,rfl⟩,⟨p2,c2,rfl⟩,⟨p3,c3,rfl⟩,_⟩:=hX.ma.ints;have CT:=hX.un.le hX.ma.le;obtain⟨p,cc,q,d,rfl,hcs,fM,_⟩:=CT.form;exact⟨ec U rfl,ec U rfl,⟨p1,c1,ec U rfl⟩,⟨p2,c2,ec U rfl⟩,⟨p3,c3,ec U rfl⟩,p,cc,q,d,rfl,ec U rfl,ec U rfl,bP U 2 0 (by simp),hcs,fM⟩
theorem XM.Ge {h0 h:Heap} {bx:Nat} {us:List Value} {u:aU} {M:bZ} {st JY:Bool} {ft LX:Int} {B:List Nat} {K:Heap->Prop} {i:Nat} {v:Value} (hX:XM h0 h bx us u M st ft B)
  (hi:(i=9/\v=.bool JY/\LX=ft)\/(i=10/\v=.int .i64 LX/\JY=st))
  (hk:∀ h',XM h0 h' bx us u M JY LX B->Ev h h' (bx::B) (bx::B)->rd h' bx 3=rd h bx 3->(∀ b,b≠bx->h' b=h b)->K h'):St h bx i [v] K:=by
 have yw:=hX.Gd;obtain⟨mc,t,U,hlen,eF⟩:=hX.ma.MZ;obtain⟨k1,k2⟩:=eF [.bool JY,.int .i64 LX];have hw:ep (us++mc++[.bool st,.int .i64 ft]) i [v]=us++mc++[.bool JY,.int .i64 LX]:=by
  have h1:i=(us++mc).length+(i-9):=by rcases hi with ⟨rfl,_⟩|⟨rfl,_⟩<;>simp[yw,hlen]
  have h2:=nu (pre:=us++mc) (x:=[.bool st,.int .i64 ft]) (post:=[]) (n:=i) (i:=i-9) (v:=v) h1 (by rcases hi with ⟨rfl,_⟩|⟨rfl,_⟩<;>simp);simp only[List.append_nil]at h2;rw[h2];rcases hi with ⟨rfl,rfl,rfl⟩|⟨rfl,rfl,rfl⟩<;>rfl
 refine Go.Vc.st U (by simp[yw,hlen];omega) ?_;rw[hw];refine hk _ ⟨k1,hX.un⟩ k2 ?_ (λb U=>by simp only[Heap.set,U,if_false]);have hr:∀ tl:List Value,(us++mc++tl)[3]? = mc[1]?:=by
  intro tl;rw[List.getElem?_append_left (by simp[yw,hlen]),List.getElem?_append_right (by omega),yw]
 rw[lU];unfold rd;rw[U];show(us++mc++[Value.bool JY,Value.int .i64 LX]).toArray[3]? = (us++mc++[Value.bool st,Value.int .i64 ft]).toArray[3]?;simp only[List.getElem?_toArray,hr]
theorem XM.post {h0 h:Heap} {bx:Nat} {us:List Value} {u:aU} {M:bZ} {st JY:Bool} {ft LX:Int} {B:List Nat} {K:Heap->Prop} {i:Nat} {v:Value} (hX:XM h0 h bx us u M st ft B)
  (hi:(i=9/\v=.bool JY/\LX=ft)\/(i=10/\v=.int .i64 LX/\JY=st))
  (hk:∀ h',XM h0 h' bx us u M JY LX B->Ev h h' (bx::B) (bx::B)->rd h' bx 3=rd h bx 3->K h'):St h bx i [v] K:=hX.Ge hi (λh' a b c _=>hk h' a b c)
theorem XM.stuck {h0 h:Heap} {bx:Nat} {us:List Value} {u:aU} {M:bZ} {st:Bool} {ft:Int} {B:List Nat} {K:Heap->Prop} (hX:XM h0 h bx us u M st ft B)
  (hk:∀ h',XM h0 h' bx us u M true ft B->Ev h h' (bx::B) (bx::B)->rd h' bx 3=rd h bx 3->K h'):St h bx 9 [.bool true] K:=hX.post (.inl ⟨rfl,rfl,rfl⟩) hk
theorem XM.fault {h0 h:Heap} {bx:Nat} {us:List Value} {u:aU} {M:bZ} {st:Bool} {ft k:Int} {B:List Nat} {K:Heap->Prop} (hX:XM h0 h bx us u M st ft B)
  (hk:∀ h',XM h0 h' bx us u M st k B->Ev h h' (bx::B) (bx::B)->rd h' bx 3=rd h bx 3->K h'):St h bx 10 [.int .i64 k] K:=hX.post (.inr ⟨rfl,rfl,rfl⟩) hk
theorem XS.tp {h0 h:Heap} {bx:Nat} {us:List Value} {u:aU} {x:Sx} {B:List Nat} (hX:XS h0 h bx us u x B):∃ bf,Tp h bx x.fs.length bf:=by
 obtain⟨vo,vs,bf,c,tm,t,q,r,v1,v2,Bo,B1,B2,U,_⟩:=hX.ma.top (fs:=x.fs) (f:=x.f) rfl;exact⟨bf,c,bG U (i:=1) (by rw[hX.Gd]) rfl⟩
theorem XS.lens {h0 h:Heap} {bx:Nat} {us:List Value} {u:aU} {x:Sx} {B:List Nat} {bf:Nat} (hX:XS h0 h bx us u x B) (ht:Tp h bx x.fs.length bf) :
  ∃ t q r v1 v2 B1 B2,h bf=some (.cells (q++[.int .i64 x.f.ah,.int .i64 x.f.pc,v1,v2]++r).toArray t (0,0))/\q.length=x.fs.length*4/\cq h v1 x.f.locals B1/\cq h v2 x.f.stack B2/\Nd (B1++B2)/\(∀ b∈bf::(B1++B2),h0 b=none/\b∈B) /\
   (∀ b,b∈B1++B2->b≠bf/\b≠bx)/\bf≠bx /\
   ∀ h' f' zY tB jf gO,h' bf=some (.cells (q++[.int .i64 f'.ah,.int .i64 f'.pc,zY,tB]++r).toArray t (0,0))->(∀ b,b ∉ bf::(B1++B2)->h b≠none->h' b=h b)->cq h' zY f'.locals jf->cq h' tB f'.stack gO ->
    (∀ b∈jf++gO,b∈B1++B2\/h b=none)->Nd (jf++gO)->XR h0 h bx us u B {x with f:=f' } h':=by
 obtain⟨tm,vo,vs,Ik,c,t,q,r,v1,v2,B1,B2,U,jS,hq,o1,o2,nd,fI,cD,zZ,eF⟩:=hX.ma.lens (fs:=x.fs) (f:=x.f) rfl;obtain⟨c0,htp⟩:=ht;have e1:rd h bx 3=some (.slice (some ⟨Ik,0,none⟩) (x.fs.length+1) c):=bG U (i:=1) (by rw[hX.Gd]) rfl;rw[htp]at e1;simp only[Option.some.injEq,Value.slice.injEq,Addr.mk.injEq,and_true,true_and]at e1;obtain⟨rfl,rfl⟩:=e1;refine⟨t,q,r,v1,v2,B1,B2,jS,hq,o1,o2,nd,fI,cD,zZ,?_⟩;intro h' f' zY tB jf gO k1 k2 k3 k4 k5 k6;obtain⟨B',Js,ev⟩:=eF h' f' zY tB jf gO k1 k2 k3 k4 k5 k6;refine⟨B',⟨Js,hX.un⟩,ev,?_⟩;have Mq:h' bx=h bx:=k2 bx (by simp only[List.mem_cons,not_or];exact⟨λhx=>zZ hx.symm,λhx=>(cD _ hx).2 rfl⟩) (by rw[U];simp);unfold rd;rw[Mq]
theorem XS.cA {h0 h:Heap} {bx:Nat} {us:List Value} {u:aU} {x:Sx} {B:List Nat} {bf:Nat} (hX:XS h0 h bx us u x B) (ht:Tp h bx x.fs.length bf) :
  ∃ t q r v1 p2 c2 B2,h bf=some (.cells (q++[.int .i64 x.f.ah,.int .i64 x.f.pc,v1,.slice p2 (x.f.stack.map bR).length c2]++r).toArray t (0,0))/\q.length=x.fs.length*4/\cq h (.slice p2 (x.f.stack.map bR).length c2) x.f.stack B2/\(∀ b∈B2,h0 b=none) /\
   rd h bf (x.fs.length*4+3)=some (.slice p2 (x.f.stack.map bR).length c2) /\
   ∀ h1 tB gO S' Jt,(∀ b,b ∉ B2->h b≠none->h1 b=h b)->cq h1 tB S' gO->(∀ b∈gO,b∈B2\/h b=none) ->
    h1 bf=h bf/\XR h0 h bx us u B {x with f:={x.f with pc:=Jt,stack:=S' } } (h1.set bf (.cells (q++[.int .i64 x.f.ah,.int .i64 Jt,v1,tB]++r).toArray t (0,0))):=by
 obtain⟨t,q,r,v1,v2,B1,B2,jS,hq,o1,o2,nd,gA,cD,zZ,eF⟩:=hX.lens ht;obtain⟨p2,c2,rfl,gG⟩:=o2.form;refine⟨t,q,r,v1,p2,c2,B2,jS,hq,o2,λb U=>(gA b (by simp;grind)).1,bG jS (i:=3) (by rw[hq]) rfl,?_⟩;intro h1 tB gO S' Jt k1 k2 k3;have n1:bf ∉ B2:=λhx=>(cD bf (by simp[hx])).1 rfl;have hd:∀ b,b∈B1->b ∉ B2:=by
  intro b h1 h2;have:=nd b;have:=List.count_pos_iff.2 h1;have:=List.count_pos_iff.2 h2;simp only[List.count_append]at *;omega
 have nb:∀ b∈gO,b≠bf:=by
  intro b U;rcases k3 b U with hx|hx
  ·rintro rfl;exact n1 hx
  ·rintro rfl;rw[jS]at hx;cases hx
 refine⟨k1 bf n1 (by rw[jS];simp),?_⟩;refine eF _ {x.f with pc:=Jt,stack:=S' } v1 tB B1 gO ?_ ?_ ?_ ?_ ?_ ?_
 ·simp[Heap.set]
 ·intro b U hn;have gI:b≠bf:=λhx=>U (by simp[hx]);simp only[Heap.set,gI,if_false];exact k1 b (λhx=>U (by simp[hx])) hn
 ·refine o1.aG λb U o ho=>?_;have gI:=(cD b (by simp[U])).1;simp only[Heap.set,gI,if_false];rw[k1 b (hd b U) (by rw[ho];simp)];exact ho
 ·refine k2.aG λb U o ho=>?_;simp only[Heap.set,nb b U,if_false];exact ho
 ·intro b U;rcases List.mem_append.1 U with hx|hx
  ·exact .inl (by simp[hx])
  ·rcases k3 b hx with hy|hy
   ·exact .inl (by simp[hy])
   ·exact .inr hy
 ·refine Nd.swap nd k2.nd λb U=>?_;rcases k3 b U with hx|hx
  ·exact .inl hx
  ·refine .inr λhy=>?_;obtain⟨o,ho⟩:=o1.in b hy;rw[hx]at ho;cases ho
theorem ux {h0 h:Heap} {bx:Nat} {us:List Value} {u:aU} {x:Sx} {B:List Nat} {bf:Nat} (hX:XS h0 h bx us u x B) (ht:Tp h bx x.fs.length bf) (hn:x.fs.length<=1000) :
  Pure prog 150 [.pointer (some ⟨bx,0,none⟩)] h (.pointer (some ⟨bf,x.fs.length*4,none⟩)):=by
 obtain⟨c,ht⟩:=ht;refine gN au func150 Ty Tz rfl ?_;conv=>whnf
 repeat' ((first|refine ld ht ?_|refine aq ?_|refine aj ?_|refine ptr ?_)<;>conv=>whnf)
 refine⟨?_,rfl⟩;have:0+(((x.fs.length+1:Nat):Int)-1).toNat*4=x.fs.length*4:=by omega
 rw[this]
def dg (x:Sx) (v:Vl):Sx:=if 4<=x.f.stack.length then {x with st:=true}else {x with f:={x.f with stack:=x.f.stack++[v]} }
def aY (x:Sx):Vl × Sx:=match x.f.stack.getLast? with
 | none=>(cJ,{x with st:=true})
 | some v=>(v,{x with f:={x.f with stack:=x.f.stack.dropLast} })
def aC (x:Sx):Int × Sx:=if (aY x).1.ref=true then (0,{ (aY x).2 with st:=true})else ((aY x).1.n,(aY x).2)
def aE (x:Sx):Int × Sx:=if (aY x).1.ref=true then ((aY x).1.n,(aY x).2)else (0,{ (aY x).2 with st:=true})
def cz (x:Sx) (k:Int):Sx:=if x.ft=0 then {x with ft:=k}else x
def Sx.bad (x:Sx):Prop:=x.st=true\/0 < x.ft
instance (x:Sx):Decidable x.bad:=inferInstanceAs (Decidable (_\/_))
def fq (u:aU) (c k:Int):Bool:=(decide (k < 0) && !decide (c=k))||(decide (0<=k) && !(decide (0<=c)&&up u.J c k))
def bB (u:aU) (x:Sx) (n k:Int):Sx:=if x.bad then x else if n=0 then cz x 2 else if fq u (aF x.objs n).cls k=true then {x with st:=true}else x
def jq (x:Sx) (o:Ob):Sx:=if x.bad then x else dg {x with objs:=x.objs++[o]} ⟨true,x.objs.length+1⟩
def EY (u:aU) (x:Sx) (k:Int):Sx:=jq x ⟨k,(cX u.J k).map nothing⟩
def mD (k n:Int):Ob:=⟨-1-k,List.replicate (min n 6).toNat ⟨decide (k=1),0⟩⟩
def nB (x:Sx) (k:Int):Sx:=jq (if 0<=(aC x).1/\(aC x).1<=6 then (aC x).2 else cz (aC x).2 4) (mD k (aC x).1)
def JZ (x:Sx) (op:Int):Sx :=
 let b:=aC x
 let a:=aC b.2
 if (gS op a.1 b.1).2=true then dg a.2 ⟨false,(gS op a.1 b.1).1⟩else cz a.2 1
def sy (x:Sx):Sx :=
 let r:=aE x
 if 0 < r.1/\r.2.st=false/\0<=(aF r.2.objs r.1).cls then {r.2 with st:=true}else if r.1=0 then cz r.2 2 else dg r.2 ⟨false,(aF r.2.objs r.1).bE.length⟩
def Ho (x:Sx) (n i:Int) (v:Vl):Sx:={x with objs:=iQ x.objs n (putAt (aF x.objs n).bE i v)}
def uy (u:aU) (x:Sx) (k:Int) (set:Bool):Sx :=
 let p:=if set=true then aY x else (cJ,x)
 let w:=aC p.2
 let r:=aE w.2
 let y:=bB u r.2 r.1 (-1-k)
 if y.bad then y else if ¬(0<=w.1/\w.1 < (aF y.objs r.1).bE.length)then cz y 3 else if set=true then Ho y r.1 w.1 p.1 else dg y ((aF y.objs r.1).bE.getD w.1.toNat cJ)
def pE (u:aU) (x:Sx) (k i:Int) (set:Bool):Sx :=
 let p:=if set=true then aY x else (cJ,x)
 let r:=aE p.2
 let y:=bB u r.2 r.1 k
 if y.bad then y else if set=true then Ho y r.1 i p.1 else dg y ((aF y.objs r.1).bE.getD i.toNat cJ)
def sA (u:aU) (x:Sx) (k:Int):Sx :=
 let r:=aE x
 if r.2.st=true then r.2 else if 0 < r.1/\ju u.J (typeOf (aF r.2.objs r.1).cls) (8+k)=false then cz r.2 5 else dg r.2 ⟨true,r.1⟩
theorem nX {x:Sx} {v:Vl} (h:4<=x.f.stack.length):dg x v = {x with st:=true}:=if_pos h
theorem qD {x:Sx} {v:Vl} (h:x.f.stack.length < 4):dg x v = {x with f:={x.f with stack:=x.f.stack++[v]} }:=if_neg (by omega)
theorem uz {x:Sx} (h:x.f.stack=[]):aY x=(cJ,{x with st:=true}):=by unfold aY;rw[h];rfl
theorem fJ {x:Sx} {l:List Vl} {v:Vl} (h:x.f.stack=l++[v]):aY x=(v,{x with f:={x.f with stack:=l} }):=by unfold aY;rw[h];simp
theorem lA (x:Sx):(aY x).2.fs=x.fs/\(aY x).2.objs=x.objs/\(aY x).2.f.stack.length<=x.f.stack.length/\(aY x).2.f.locals=x.f.locals:=by
 rcases List.eq_nil_or_concat x.f.stack with h|⟨l,v,h⟩
 ·rw[uz h];simp
 ·rw[List.concat_eq_append]at h;rw[fJ h,h];simp
theorem jK (x:Sx):(aE x).2.fs=x.fs/\(aE x).2.objs=x.objs/\(aE x).2.f.stack.length<=x.f.stack.length/\(aE x).2.f.locals=x.f.locals:=by
 unfold aE;split<;>exact lA x
def ON (v:Vl):Value:=.agg #[.bool v.ref,.int .i64 v.n]
theorem mE {h0 h:Heap} {bx:Nat} {us:List Value} {u:aU} {x:Sx} {B:List Nat} (hX:XS h0 h bx us u x B) (hn:x.fs.length<=1000) (hs:x.f.stack.length<=1000) (v:Vl) :
  bI prog 175 [.pointer (some ⟨bx,0,none⟩),ON v] h λ_ h'=>XR h0 h bx us u B (dg x v) h':=by
 obtain⟨bf,ht⟩:=hX.tp;obtain⟨t,q,r,v1,p2,c2,B2,jS,hq,o2,gA,r3,eF⟩:=hX.cA ht;have hle:=hX.ma.le;have hlen:=dY bR x.f.stack;have jg:=ux hX ht hn;refine bS au func175 Ue Uf rfl ?_;conv=>whnf
 refine ay jg ?_;conv=>whnf
 refine ld r3 ?_;conv=>whnf
 apply ax<;>intro g;all_goals conv=>whnf
 ·refine hX.stuck (λh1 fe fD e1=>?_);conv=>whnf
  rw[nX (by omega)];exact⟨B,fe,fD,e1⟩
 repeat' ((first|exact trivial|refine ld r3 ?_|apply And.intro)<;>conv=>whnf)
 all_goals
  refine cY (h0:=h0) (ys:=[bR v]) o2 gA hle rfl rfl (by simp[bR]) rfl rfl (by simp;omega) (by simp;omega) ?_;intro v' h1 gO g1 g2 g3 g4 g5;have ff:=g2.form;obtain⟨p',c',rfl,oQ⟩:=ff;have zy:cq h1 (.slice p' (x.f.stack.map bR++[bR v]).length c') (x.f.stack++[v]) gO:=by unfold cq;rw[List.map_append];exact g2
  obtain⟨e1,hR⟩:=eF h1 _ gO (x.f.stack++[v]) x.f.pc g4 zy g5;rw[jS]at e1;conv=>whnf
  repeat' ((first|refine st e1 (by simp;omega) ?_)<;>conv=>whnf)
  rw[EG (i:=3) (by rw[hq]) (by simp),qD (by omega)];exact hR
theorem J0 {h0 h:Heap} {bx:Nat} {us:List Value} {u:aU} {x:Sx} {B:List Nat} (hX:XS h0 h bx us u x B) (hn:x.fs.length<=1000) (hs:x.f.stack.length<=1000) :
  bI prog 174 [.pointer (some ⟨bx,0,none⟩)] h λv h'=>v=ON (aY x).1/\XR h0 h bx us u B (aY x).2 h'/\∀ bf,Tp h bx x.fs.length bf->rd h' bf (x.fs.length*4+2)=rd h bf (x.fs.length*4+2):=by
 obtain⟨bf,ht⟩:=hX.tp;have AH:∀ Ik,Tp h bx x.fs.length Ik->Ik=bf:=by
  rintro Ik ⟨c1,k1⟩;obtain⟨c2,k2⟩:=ht;rw[k1]at k2;simp only[Option.some.injEq,Value.slice.injEq,Addr.mk.injEq,and_true,true_and]at k2;exact k2.1
 have aaH:bf≠bx:=by
  obtain⟨_,_,_,_,_,_,_,_,_,_,_,_,_,_,zZ,_⟩:=hX.lens ht;exact zZ
 obtain⟨t,q,r,v1,p2,c2,B2,jS,hq,o2,gA,r3,eF⟩:=hX.cA ht;have hle:=hX.ma.le;have hlen:=dY bR x.f.stack;have jg:=ux hX ht hn;rcases List.eq_nil_or_concat x.f.stack with GI|⟨l,w,Bn⟩
 ·have h0:(List.map bR x.f.stack).length=0:=by rw[GI];rfl
  refine bS au func174 PM N8 rfl ?_;conv=>whnf
  refine ay jg ?_;conv=>whnf
  refine ld r3 ?_;conv=>whnf
  refine b8 ?_;conv=>whnf
  refine hX.Ge (JY:=true) (.inl ⟨rfl,rfl,rfl⟩) (λh1 fe fD e1 k1=>?_);conv=>whnf
  rw[uz GI];exact⟨rfl,⟨B,fe,fD,e1⟩,λIk U=>by rw[AH Ik U];unfold rd;rw[k1 bf aaH]⟩
 ·rw[List.concat_eq_append]at Bn;have jN:x.f.stack.length=l.length+1:=by rw[Bn];simp
  have hi:l.length < x.f.stack.length:=by omega
  obtain⟨b2,rfl,r4,_,rfl,_⟩:=o2.two hi;have FO:x.f.stack[l.length]=w:=by simp[Bn]
  rw[FO]at r4;have e5:(((List.map bR x.f.stack).length:Int)-1).toNat=l.length:=by omega
  have We:eG h b2 (0+(((List.map bR x.f.stack).length:Int)-1).toNat*2) 2=some (bR w):=by rw[e5];exact r4
  have hc:=o2.form;obtain⟨_,_,he,gG⟩:=hc;simp only[Value.slice.injEq]at he;obtain⟨_,_,rfl⟩:=he;have o3:cq h (.slice (some ⟨b2,0,none⟩) l.length c2) l [b2]:=by
   have:=cn.first (l:=l.length) o2 (by omega);have e6:(List.map bR x.f.stack).take l.length=l.map bR:=by rw[Bn];simp
   rw[e6]at this;exact this
  have Df:=(eF h _ [b2] l x.f.pc (λ_ _ _=>rfl) o3 (λb U=>.inl U)).2;rw[<-e5]at Df;refine bS au func174 PM N8 rfl ?_;conv=>whnf
  refine ay jg ?_;conv=>whnf
  refine ld r3 ?_;conv=>whnf
  refine bL ?_;conv=>whnf
  repeat' ((first|refine ld r3 ?_|refine dK We ?_|refine aq ?_|refine aj ?_|refine ptr ?_)<;>conv=>whnf)
  refine kJ jS (i:=3) [.int .i64 x.f.ah,.int .i64 x.f.pc,v1,.slice (some ⟨b2,0,none⟩) (((List.map bR x.f.stack).length:Int)-1).toNat c2] (by omega) (by simp) rfl (λh9 MO g9=>?_);rw[<-MO]at Df;conv=>whnf
  rw[fJ Bn];refine⟨rfl,Df,λIk U=>?_⟩;rw[AH Ik U,bG jS (i:=2) (by omega) rfl];exact bG (pre:=q) (x:=[.int .i64 x.f.ah,.int .i64 x.f.pc,v1,.slice (some ⟨b2,0,none⟩) (((List.map bR x.f.stack).length:Int)-1).toNat c2]) (post:=r) g9 (i:=2) (by omega) rfl
theorem yx {h0 h:Heap} {bx:Nat} {us:List Value} {u:aU} {x:Sx} {B:List Nat} (hX:XS h0 h bx us u x B) (hn:x.fs.length<=1000) (hs:x.f.stack.length<=1000) :
  bI prog 174 [.pointer (some ⟨bx,0,none⟩)] h λv h'=>v=ON (aY x).1/\XR h0 h bx us u B (aY x).2 h':=(J0 hX hn hs).mono λ_ _ hh=>⟨hh.1,hh.2.1⟩
structure kU (u:aU) (x:Sx):Prop where
 len:7<=x.objs.length/\x.objs.length<=300
 zk:∀ o∈x.objs,RY u x.objs.length o
 nf:x.fs.length<=3
 jy:EW u x.objs.length x.f
 ft:0<=x.ft
theorem EW.cA {u:aU} {n:Nat} {f:bU} (h:EW u n f) {l:List Vl} (hl:l.length<=4) (hv:∀ v∈l,tD n v):EW u n {f with stack:=l}:=⟨h.1,h.2.1,h.2.2.1,hl,h.2.2.2.2.1,hv⟩
theorem kU.stuck {u:aU} {x:Sx} (h:kU u x):kU u {x with st:=true}:=⟨h.len,h.zk,h.nf,h.jy,h.ft⟩
theorem kU.pop {u:aU} {x:Sx} (h:kU u x):kU u (aY x).2/\tD x.objs.length (aY x).1:=by
 rcases List.eq_nil_or_concat x.f.stack with hn|⟨l,v,hn⟩
 ·rw[uz hn];exact⟨h.stuck,qC (by decide)⟩
 ·rw[List.concat_eq_append]at hn;rw[fJ hn];have h4:=h.jy.2.2.2.1;have h5:=h.jy.2.2.2.2.2;rw[hn]at h4 h5;exact⟨⟨h.len,h.zk,h.nf,h.jy.cA (by simp at h4;omega) (λw hw=>h5 w (by simp[hw])),h.ft⟩,h5 v (by simp)⟩
theorem kU.word {u:aU} {x:Sx} (h:kU u x):kU u (aC x).2/\-128<=(aC x).1/\(aC x).1<=127:=by
 have hp:=h.pop;unfold aC;split
 ·exact⟨hp.1.stuck,by simp⟩
 ·rename_i hr;exact⟨hp.1,eT.1 (hp.2.2 (by simpa using hr))⟩
theorem kU.ref {u:aU} {x:Sx} (h:kU u x):kU u (aE x).2/\0<=(aE x).1/\(aE x).1<=x.objs.length:=by
 have hp:=h.pop;unfold aE;split
 ·rename_i hr;exact⟨hp.1,hp.2.1 hr⟩
 ·exact⟨hp.1.stuck,by simp⟩
theorem kU.Wt {u:aU} {x:Sx} (h:kU u x) {k:Int} (hk:0<=k):kU u (cz x k):=by
 unfold cz;split
 ·exact⟨h.len,h.zk,h.nf,h.jy,hk⟩
 ·exact h
theorem kU.push {u:aU} {x:Sx} (h:kU u x) {v:Vl} (hv:tD x.objs.length v):kU u (dg x v):=by
 unfold dg;split
 ·exact h.stuck
 ·refine⟨h.len,h.zk,h.nf,h.jy.cA (by simp;omega) (λw hw=>?_),h.ft⟩;simp only[List.mem_append,List.mem_singleton]at hw;rcases hw with hw|rfl
  ·exact h.jy.2.2.2.2.2 w hw
  ·exact hv
theorem XM.mono {h0 h h':Heap} {bx:Nat} {us:List Value} {u:aU} {M:bZ} {sk:Bool} {ft:Int} {B:List Nat} (hX:XM h0 h bx us u M sk ft B) (hl:h.le h'):XM h0 h' bx us u M sk ft B/\Ev h h' (bx::B) (bx::B)/\rd h' bx 3=rd h bx 3:=by
 obtain⟨_,_,_,⟨p,c,r3⟩,_⟩:=hX.kT;exact⟨⟨hX.ma.mono hl,hX.un⟩,Ev.of_le hl _ (λb U=>.inl U),by rw[r3,aX hl r3]⟩
theorem nC {h0 h:Heap} {bx:Nat} {us:List Value} {u:aU} {x:Sx} {B:List Nat} (hX:XS h0 h bx us u x B) (hs:kU u x) :
  bI prog 177 [.pointer (some ⟨bx,0,none⟩)] h λv h'=>v=.int .i64 (aC x).1/\XR h0 h bx us u B (aC x).2 h':=by
 have J1:=yx hX (by have:=hs.nf;omega) (by have:=hs.jy.2.2.2.1;omega);refine bS au func177 Ug Uh rfl ?_;conv=>whnf
 refine aD J1 (λv h1 hh=>?_);have hv:=hh.1;subst hv;refine hh.2.elim λB1 gj=>?_;have fe:=gj.1;conv=>whnf
 apply dS<;>intro g;all_goals conv=>whnf
 ·refine fe.stuck (λh2 oE gP e2=>?_);conv=>whnf
  unfold aC;rw[if_pos g];exact⟨rfl,B1,oE,gj.2.1.trans gP,e2.trans gj.2.2⟩
 ·unfold aC;rw[if_neg (by rw[g];simp)];exact⟨rfl,B1,fe,gj.2⟩
theorem wG {h0 h:Heap} {bx:Nat} {us:List Value} {u:aU} {x:Sx} {B:List Nat} (hX:XS h0 h bx us u x B) (hs:kU u x) :
  bI prog 148 [.pointer (some ⟨bx,0,none⟩)] h λv h'=>v=.int .i64 (aE x).1/\XR h0 h bx us u B (aE x).2 h':=by
 have J1:=yx hX (by have:=hs.nf;omega) (by have:=hs.jy.2.2.2.1;omega);refine bS au func148 Tu Tv rfl ?_;conv=>whnf
 refine aD J1 (λv h1 hh=>?_);have hv:=hh.1;subst hv;refine hh.2.elim λB1 gj=>?_;have fe:=gj.1;conv=>whnf
 apply bY<;>intro g;all_goals conv=>whnf
 ·refine fe.stuck (λh2 oE gP e2=>?_);conv=>whnf
  unfold aE;rw[if_neg (by rw[g];simp)];exact⟨rfl,B1,oE,gj.2.1.trans gP,e2.trans gj.2.2⟩
 ·unfold aE;rw[if_pos g];exact⟨rfl,B1,fe,gj.2⟩
theorem j7 {h0 h:Heap} {bx:Nat} {us:List Value} {u:aU} {x:Sx} {B:List Nat} (hX:XS h0 h bx us u x B) (k:Int) :
  bI prog 149 [.pointer (some ⟨bx,0,none⟩),.int .i64 k] h λ_ h'=>XR h0 h bx us u B (cz x k) h':=by
 obtain⟨_,gV,_⟩:=hX.kT;refine bS au func149 Tw Tx rfl ?_;conv=>whnf
 refine ld gV ?_;conv=>whnf
 apply ax<;>intro g;all_goals conv=>whnf
 ·refine hX.fault (λh2 oE gP e2=>?_);conv=>whnf
  unfold cz;rw[if_pos g];exact⟨B,oE,gP,e2⟩
 ·unfold cz;rw[if_neg g];exact⟨B,hX,Ev.refl _ _,rfl⟩
theorem XS.jF {h0 h:Heap} {bx:Nat} {us:List Value} {u:aU} {x:Sx} {B:List Nat} (hX:XS h0 h bx us u x B) {n:Int} (h1:0 < n) (h2:n<=x.objs.length) :
  ∃ bo c v Bi,rd h bx 2=some (.slice (some ⟨bo,0,none⟩) x.objs.length c)/\rd h bo (0+(n-1).toNat*2)=some (.int .i64 (aF x.objs n).cls)/\rd h bo (0+(n-1).toNat*2+1)=some v/\cq h v (aF x.objs n).bE Bi /\
   ∀ h' fA,cq h' v fA Bi->(∀ b,b ∉ Bi->h b≠none->h' b=h b)->XR h0 h bx us u B {x with objs:=iQ x.objs n fA } h':=by
 have hi:(n-1).toNat < x.objs.length:=by omega
 obtain⟨bo,c,tm,vf,vs,q,r,t,v,Bi,U,mS,hq,ov,AU,abN,iq,eF⟩:=hX.ma.obj (ud x.objs hi);have cO:(x.objs.take (n-1).toNat).length=(n-1).toNat:=by simp;omega
 have sQ:aF x.objs n=x.objs[(n-1).toNat]:=ue hi (by omega);refine⟨bo,c,v,Bi,bG U (i:=0) (by rw[hX.Gd]) rfl,by rw[sQ];exact bG mS (i:=0) (by omega) rfl,bG mS (i:=1) (by omega) rfl,by rw[sQ];exact ov,λh' fA k1 k2=>?_⟩;obtain⟨B',Js,dy⟩:=eF h' fA k1 k2;have jO:iQ x.objs n fA=x.objs.take (n-1).toNat++{x.objs[(n-1).toNat]with bE:=fA }::x.objs.drop ((n-1).toNat+1):=by
  unfold iQ;rw[sQ,List.set_eq_take_append_cons_drop,if_pos hi]
 have Mq:h' bx=h bx:=by
  refine k2 bx (λhx=>?_) (by rw[U];simp);exact iq (AU _ hx).1
 refine⟨B',⟨?_,hX.un⟩,⟨λb gI eX=>k2 b (λhx=>eX (by simp[(AU b hx).1])) gI,λb gI=>.inl ((dy b).1 gI)⟩,by unfold rd;rw[Mq]⟩;show gz h0 h' bx us _ ⟨iQ x.objs n fA,_,_,_,_,_⟩ B';rw[jO];exact Js
theorem uA {h0 h:Heap} {bx:Nat} {us:List Value} {u:aU} {x:Sx} {B:List Nat} (hX:XS h0 h bx us u x B) (hs:kU u x) (ok:cj u.J) (n k:Int) (hn:0<=n/\n<=x.objs.length) (hk : -2<=k) :
  bI prog 176 [.pointer (some ⟨bx,0,none⟩),.int .i64 n,.int .i64 k] h λv h'=>XR h0 h bx us u B (bB u x n k) h'/\(∃ bn on,v=.pointer (some ⟨bn,on,none⟩)) /\
   (¬(bB u x n k).bad->0 < n/\bB u x n k=x/\∃ bo c,rd h' bx 2=some (.slice (some ⟨bo,0,none⟩) x.objs.length c)/\v=.pointer (some ⟨bo,0+(n-1).toNat*2,none⟩)):=by
 obtain⟨r9,gV,_,_,_,p,cc,q,d,rfl,r0,r1,r01,hcs,fM⟩:=hX.kT;have hl:=hs.len.2;by_cases dh:x.bad
 ·have dD:bB u x n k=x:=if_pos dh;rw[dD];refine bS au func176 Mz I5 rfl ?_;conv=>whnf
  refine dI [.int .i64 0,.slice none 0 0] rfl (λbn h1 gI e1 l1 g1=>?_);have hm:=hX.mono l1;have fe:XS h0 h1 bx _ u x B:=hm.1;have P8:=aX l1 r9;have J2:=aX l1 gV;conv=>whnf
  refine ld P8 ?_;conv=>whnf
  have fin:XR h0 h bx [.slice p u.J.length cc,.slice q u.methods.length d] u B x h1:=⟨B,fe,hm.2⟩
  apply dS<;>intro g;all_goals conv=>whnf
  ·exact⟨fin,⟨_,_,rfl⟩,λhx=>absurd dh hx⟩
  ·have wV:0 < x.ft:=by
    rcases dh with U|U
    ·rw[g]at U;cases U
    ·exact U
   refine ld J2 ?_;conv=>whnf
   refine fX wV ?_;conv=>whnf
   exact⟨fin,⟨_,_,rfl⟩,λhx=>absurd dh hx⟩
 have dZ:x.st=false:=by
  cases hh:x.st with
  | false=>rfl
  | true=>exact absurd (.inl hh) dh
 have wV:x.ft=0:=by
  have:=hs.ft;have:¬0 < x.ft:=λhx=>dh (.inr hx);omega
 rw[dZ]at r9;rw[wV]at gV;by_cases rJ:n=0
 ·have dD:bB u x n k=cz x 2:=by unfold bB;rw[if_neg dh,if_pos rJ]
  have hwb:(cz x 2).bad:=.inr (by unfold cz;rw[if_pos wV];show(0:Int) < 2;omega);rw[dD];refine bS au func176 Mz I5 rfl ?_;conv=>whnf
  refine dI [.int .i64 0,.slice none 0 0] rfl (λbn h1 gI e1 l1 g1=>?_);have hm:=hX.mono l1;have fe:XS h0 h1 bx _ u x B:=hm.1;have P8:=aX l1 r9;have J2:=aX l1 gV;conv=>whnf
  repeat' ((first|refine ld P8 ?_|refine ld J2 ?_|refine aq ?_|refine aj ?_|refine ptr ?_)<;>conv=>whnf)
  refine fX rJ ?_;conv=>whnf
  refine aD (j7 fe 2) (λv h2 hh=>?_);conv=>whnf
  exact⟨hh.trans hm.2.1 hm.2.2,⟨_,_,rfl⟩,λhx=>absurd hwb hx⟩
 have sQ:=hX.jF (n:=n) (by omega) hn.2;obtain⟨bo,c,v,Bi,q2,q3,_,_,_⟩:=sQ;have hO:=hs.zk _ (iw (objs:=x.objs) (n:=n) (by omega) hn.2);have lq : -2<=(aF x.objs n).cls/\(aF x.objs n).cls < u.J.length:=by
  rcases hO.2 with ⟨h2,_⟩|⟨h2,h3,_⟩
  ·have:=ok.1;omega
  ·omega
 have dD:bB u x n k=if fq u (aF x.objs n).cls k=true then {x with st:=true}else x:=by unfold bB;rw[if_neg dh,if_neg rJ]
 generalize (aF x.objs n).cls=cl at q3 lq dD;have gI:fq u cl k=true->bB u x n k = {x with st:=true}:=λhx=>by rw[dD,if_pos hx]
 have eX:fq u cl k=false->bB u x n k=x:=λhx=>by rw[dD,if_neg (by rw[hx];simp)]
 have zW:=λ(h1:Heap) (l1:h.le h1) (c0:0<=cl) (k0:0<=k)=>sM p u.J.length cc u.J cl k h1 (hcs.le l1 (λ_ _ hx=>hx.le l1)) ok (by omega) (by omega) k0;refine bS au func176 Mz I5 rfl ?_;conv=>whnf
 refine dI [.int .i64 0,.slice none 0 0] rfl (λbn h1 rU e1 l1 g1=>?_);have hm:=hX.mono l1;have fe:XS h0 h1 bx _ u x B:=hm.1;have P8:=aX l1 r9;have J2:=aX l1 gV;have r0':=aX l1 r0;have OD:=aX l1 q2;have q3':=aX l1 q3;have bad:fq u cl k=true->∀ K:Heap->Prop,(∀ h2,(XR h0 h bx [.slice p u.J.length cc,.slice q u.methods.length d] u B (bB u x n k) h2/\(bB u x n k).bad)->K h2)->St h1 bx 9 [.bool true] K:=λhx K hk =>
  fe.stuck (λh2 oE gP e2=>hk h2 (by rw[gI hx];exact⟨⟨B,oE,hm.2.1.trans gP,e2.trans hm.2.2⟩,.inl rfl⟩))
 have Hp:fq u cl k=false->XR h0 h bx [.slice p u.J.length cc,.slice q u.methods.length d] u B (bB u x n k) h1/\bB u x n k=x:=λhx=>by rw[eX hx];exact⟨⟨B,fe,hm.2⟩,rfl⟩
 have zz:0+((n:Int)-1).toNat*2=0+(n-1).toNat*2:=rfl;clear gI eX dD hO;conv=>whnf
 repeat' ((first|refine ld P8 ?_|refine ld J2 ?_|refine aq ?_|refine aj ?_|refine ptr ?_)<;>conv=>whnf)
 refine cy rJ ?_;conv=>whnf
 repeat' ((first|refine ld OD ?_|refine aq ?_|refine aj ?_|refine ptr ?_)<;>conv=>whnf)
 apply ax<;>intro gk;all_goals conv=>whnf
 ·repeat' ((first|refine ld q3' ?_|refine aq ?_|refine aj ?_|refine ptr ?_)<;>conv=>whnf)
  apply aV<;>intro g;all_goals conv=>whnf
  ·refine bad (by simp[fq,gk,g]) _ (λh2 hh=>?_);conv=>whnf
   exact⟨hh.1,⟨_,_,rfl⟩,λhx=>absurd hh.2 hx⟩
  ·repeat' ((first|refine bL ?_|refine b8 ?_)<;>conv=>whnf)
   have hg:=Hp (by simp[fq,g];omega);exact⟨hg.1,⟨_,_,rfl⟩,λ_=>⟨by omega,hg.2,bo,c,OD,rfl⟩⟩
 ·repeat' ((first|refine bL ?_|refine b8 ?_)<;>conv=>whnf)
  repeat' ((first|refine ld q3' ?_|refine aq ?_|refine aj ?_|refine ptr ?_)<;>conv=>whnf)
  apply ax<;>intro gc;all_goals conv=>whnf
  ·repeat' ((first|refine ld r0' ?_|refine ld q3' ?_|refine aq ?_|refine aj ?_|refine ptr ?_)<;>conv=>whnf)
   refine aT (zW h1 l1 gc (by omega)) ?_;conv=>whnf
   apply bY<;>intro g;all_goals conv=>whnf
   ·refine bad (by simp[fq,g];omega) _ (λh2 hh=>?_);conv=>whnf
    exact⟨hh.1,⟨_,_,rfl⟩,λhx=>absurd hh.2 hx⟩
   ·have hg:=Hp (by simp[fq,g];omega);exact⟨hg.1,⟨_,_,rfl⟩,λ_=>⟨by omega,hg.2,bo,c,OD,rfl⟩⟩
  ·repeat' ((first|refine bL ?_|refine b8 ?_)<;>conv=>whnf)
   refine bad (by simp[fq];omega) _ (λh2 hh=>?_);conv=>whnf
   exact⟨hh.1,⟨_,_,rfl⟩,λhx=>absurd hh.2 hx⟩
theorem nY (n:Int) (h:Heap):Pure prog 145 [.int .i64 n] h (ON ⟨false,n⟩):=by
 refine gN au func145 Tq Tr rfl ?_;conv=>whnf
 exact⟨rfl,rfl⟩
theorem mF (n:Int) (h:Heap):Pure prog 154 [.int .i64 n] h (ON ⟨true,n⟩):=by
 refine gN au func154 TF TG rfl ?_;conv=>whnf
 exact⟨rfl,rfl⟩
theorem Bp (t:Int) (h:Heap):Pure prog 210 [.int .i64 t] h (ON (nothing t)):=by
 refine gN au func210 Vb Vd rfl ?_;conv=>whnf
 exact⟨rfl,rfl⟩
theorem EZ {h0 h:Heap} {bx:Nat} {us:List Value} {u:aU} {x:Sx} {B:List Nat} (hX:XS h0 h bx us u x B) (hs:kU u x) (o:Ob) {v:Value} {Bv:List Nat} (ho:cq h v o.bE Bv) (hBv:∀ b∈Bv,b ∉ bx::B/\h0 b=none) :
  bI prog 211 [.pointer (some ⟨bx,0,none⟩),.agg #[.int .i64 o.cls,v]] h λ_ h'=>∃ B',XS h0 h' bx us u (jq x o) B'/\Ev h h' ((bx::B)++Bv) (bx::B')/\rd h' bx 3=rd h bx 3:=by
 obtain⟨r9,gV,⟨p2,c2,r2⟩,_,_,p,cc,q,d,rfl,r0,r1,r01,hcs,fM⟩:=hX.kT;have hl:=hs.len.2;have V3:Ev h h ((bx::B)++Bv) (bx::B):=⟨λ_ _ _=>rfl,λb U=>.inl (List.mem_append.2 (.inl U))⟩
 have Wu:=ho.form;obtain⟨pv,cv,rfl,_⟩:=Wu;by_cases dh:x.bad
 ·have dD:jq x o=x:=if_pos dh;rw[dD];refine bS au func211 PS Od rfl ?_;conv=>whnf
  refine ld r9 ?_;conv=>whnf
  apply dS<;>intro g;all_goals conv=>whnf
  ·exact⟨B,hX,V3,rfl⟩
  ·have wV:0 < x.ft:=by
    rcases dh with U|U
    ·rw[g]at U;cases U
    ·exact U
   refine ld gV ?_;conv=>whnf
   refine fX wV ?_;conv=>whnf
   exact⟨B,hX,V3,rfl⟩
 have dZ:x.st=false:=by
  cases hh:x.st with
  | false=>rfl
  | true=>exact absurd (.inl hh) dh
 have wV:x.ft=0:=by
  have:=hs.ft;have:¬0 < x.ft:=λhx=>dh (.inr hx);omega
 have RZ:jq x o=dg {x with objs:=x.objs++[o]} ⟨true,x.objs.length+1⟩:=if_neg dh;rw[RZ];have hX0:=hX;have M0:=dZ;have abO:=wV;rw[dZ]at r9;rw[wV]at gV;obtain⟨t,po,co,vf,vs,U,grow⟩:=hX.ma.V4 (show x.Bm.objs.length<=1000 by show x.objs.length<=1000;omega);have yc:rd h bx 2=some (.slice po x.objs.length co):=bG U (i:=0) rfl rfl;have C3:rd h bx 3=some vf:=bG U (i:=1) rfl rfl;refine bS au func211 PS Od rfl ?_;conv=>whnf
 repeat' ((first|refine ld r9 ?_|refine ld gV ?_|refine aq ?_|refine aj ?_|refine ptr ?_)<;>conv=>whnf)
 repeat' ((first|exact trivial|refine ld yc ?_|apply And.intro)<;>conv=>whnf)
 all_goals
  refine grow o Bv _ _ ⟨_,rfl,ho⟩ ho.nd hBv rfl rfl rfl rfl (by simp) ?_;rintro p' c' h2 e1 e2 e3 ⟨B',LM,rT⟩;have eX:=e1.trans U;conv=>whnf
  refine kJ eX (i:=0) (aB (.slice p' (x.Bm.objs.length+1) c') vf vs x.Bm) rfl (by simp[aB]) (by rfl) (λh3 e4 g4=>?_);have kL:XS h0 h3 bx [.slice p u.J.length cc,.slice q u.methods.length d] u {x with objs:=x.objs++[o]} B':=⟨by rw[e4];exact LM,hX.un⟩
  have q2:rd h3 bx 2=some (.slice p' (x.objs.length+1) c'):=bG g4 (i:=0) rfl rfl;have q3:rd h3 bx 3=some vf:=bG g4 (i:=1) rfl rfl;rw[<-e4]at rT;conv=>whnf
  refine ld q2 ?_;conv=>whnf
  refine ay (mF _ _) ?_;conv=>whnf
  refine aD (mE kL (by have:=hs.nf;show x.fs.length<=1000;omega) (by have:=hs.jy.2.2.2.1;show x.f.stack.length<=1000;omega) ⟨true,((x.objs.length+1:Nat):Int)⟩) (λv h4 hh=>?_);conv=>whnf
  refine hh.elim λB4 hh=>?_;exact⟨B4,hh.1,rT.trans hh.2.1,by rw[hh.2.2,q3,C3]⟩
theorem M1 {h0 h:Heap} {bx:Nat} {us:List Value} {u:aU} {x:Sx} {B:List Nat} (hX:XS h0 h bx us u x B) (hs:kU u x) (ok:cj u.J) (k:Int) (hk:0<=k/\k < u.J.length) :
  bI prog 179 [.pointer (some ⟨bx,0,none⟩),.int .i64 k] h λ_ h'=>XR h0 h bx us u B (EY u x k) h':=by
 have fI:=hX.ma.in;have hle:=hX.ma.le;obtain⟨r9,gV,_,_,_,p,cc,q,d,rfl,r0,r1,r01,hcs,fM⟩:=hX.kT;have Wv:=fH ok hk.2;refine bS au func179 Uk Ul rfl ?_;conv=>whnf
 refine ld r0 ?_;conv=>whnf
 refine aD (lZ (k.toNat+1) p u.J.length cc u.J k h hcs ok hk.1 hk.2 (by omega)) (λv h1 hh=>?_);refine hh.2.elim λBt fU=>?_;have ot:=fU.1;have nt:=fU.2;have LY:=hh.1;have hf:=ot.form;refine hf.elim λpt hf=>hf.elim λct hf=>?_;have hv:=hf.1;subst hv;have gA:EY u x k=jq x ⟨k,(cX u.J k).map nothing⟩:=rfl;rw[gA];generalize cX u.J k=types at ot Wv gA ⊢;have iS:=dY bO types;conv=>whnf
 refine fm [0,4,5,6] [5] (λs:Nat × Heap × Option Addr × Nat × List Nat=>s.1<=types.length/\h1.le s.2.1/\cq s.2.1 (.slice s.2.2.1 s.1 s.2.2.2.1) ((types.take s.1).map nothing) s.2.2.2.2/\∀ b∈s.2.2.2.2,h1 b=none) (λs=>types.length-s.1)
  (λs=>([.v (.pointer (some ⟨bx,0,none⟩)),.v (.slice pt (types.map bO).length ct),.l 5 0,.v (.int .i64 s.1)],[some [.int .i64 k,.slice s.2.2.1 s.1 s.2.2.2.1]],s.2.1))
  (0,h1,none,0,[]) ⟨by omega,Heap.le_refl h1,⟨by simp,.inl ⟨rfl,by simp,rfl⟩⟩,by simp⟩ rfl ?_
 rintro⟨i,h2,pp,c,Bv⟩ ⟨hi,l1,ov,nv⟩;simp only at hi l1 ov nv ⊢;conv=>whnf
 apply ax<;>intro g;all_goals conv=>whnf
 ·have cG:i < types.length:=by omega
  have e:=(show dV h2 (.slice pt (types.map bO).length ct) types Bt from ot.aG (cC.of_le l1 _)).nth (i:=i) (by simpa using cG);obtain⟨b,hq,e1,_⟩:=e;rw[List.getElem_map]at e1;have e2:rd h2 b (0+i*1)=some (.int .i64 types[i]):=by simpa using aK e1 (i:=0) rfl
  refine aq ?_;conv=>whnf
  refine aO hq ?_;conv=>whnf
  refine ld e2 ?_;conv=>whnf
  repeat' ((first|exact trivial|refine aT (Bp _ _) ?_|apply And.intro)<;>conv=>whnf)
  all_goals
   have cO:((types.take i).map nothing).length=i:=by simp;omega
   refine cY (h0:=h1) (ys:=[bR (nothing types[i])]) ov nv l1 rfl rfl (by simp[bR]) rfl rfl (by simp;omega) (by simp;omega) ?_;intro v' h3 B2 g1 g2 g3 g4 g5;have zy:cq h3 v' ((types.take (i+1)).map nothing) B2:=by
    unfold cq;rw[<-List.take_append_getElem cG,List.map_append,List.map_append];exact g2
   obtain⟨p',c',rfl,_⟩:=zy.form;have AX:(((types.take (i+1)).map nothing).map bR).length=i+1:=by simp;omega
   rw[AX]at zy ⊢;conv=>whnf
   refine aj ?_;conv=>whnf
   exact dm (i+1,h3,p',c',B2) ⟨by omega,g1,zy,g3⟩ (by simp only;omega) rfl
 ·have nV:i=types.length:=by omega
  subst nV;rw[List.take_length]at ov;have hm:=hX.mono (Heap.le_trans LY l1);have lS:∀ b,h1 b=none->h b=none:=λb U=>by
   cases hh:h b with
   | none=>rfl
   | some o=>rw[LY b o hh]at U;cases U
  have sR:∀ b∈Bv,b ∉ bx::B/\h0 b=none:=by
   intro b bz;have hn:=lS b (nv b bz);refine⟨λhx=>?_,?_⟩
   ·obtain⟨o,ho⟩:=fI b hx;rw[hn]at ho;cases ho
   ·cases hh:h0 b with
    | none=>rfl
    | some o=>rw[hle b o hh]at hn;cases hn
  refine aD (EZ hm.1 hs ⟨k,types.map nothing⟩ ov sR) (λv h3 hh=>?_);conv=>whnf
  refine hh.elim λB3 hh=>?_;refine⟨B3,hh.1,?_,hh.2.2.trans hm.2.2⟩;have:=(Ev.of_le (Heap.le_trans LY l1) ((bx::B)++Bv) (S:=bx::B) (λb bz=>(List.mem_append.1 bz).imp id (λhx=>lS b (nv b hx)))).trans hh.2.1;exact this
end Go.Proofs
