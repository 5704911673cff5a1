/- Part 7 of the lemmas on which the law rests: what functions of the program and of the reference do; no conditions but those that each lemma states. -/
import Derived.Test.YtclenamodemnpaaGreatMg6
set_option linter.unusedSimpArgs false
set_option linter.unusedVariables false
namespace Go.Proofs
open Go.Vc Go.Proofs.Tryz
set_option maxRecDepth 100000
set_option maxHeartbeats 4000000
theorem XM.made {h h1 h2:Heap} {mc:List Value} {M:bZ} {B:List Nat} {bx:Nat} {t:TypeId} {us:List Value} {u:aU} (own:gJ h1 mc M B) (nd:Nd B) (fr:∀ b∈B,h b=none) (hl:h.le h1) (U:h1 bx=none) (hl2:h1.le h2)
  (hg:h2 bx=some (.cells (us++mc++[Value.bool false,Value.int .i64 0]).toArray t (0,0))) (hu:dL h us u):XM h h2 bx us u M false 0 B:=by
 have hn:bx ∉ B:=λhx=>by
  obtain⟨o,ho⟩:=own.in bx hx;rw[U]at ho;cases ho
 refine⟨⟨Heap.le_trans hl hl2,⟨mc,t,hg,own.aG (cC.of_le hl2 _)⟩,?_,λb hx=>?_⟩,hu⟩
 ·intro a;have:=nd a;by_cases ha:bx=a
  ·subst ha;simp[List.count_eq_zero.2 hn]
  ·simp[ha];exact this
 ·rcases List.mem_cons.1 hx with rfl|hx
  ·cases hh:h b with
   | none=>rfl
   | some o=>rw[hl b o hh]at U;cases U
  ·exact fr b hx
theorem XM.again {h h4 h5 h6:Heap} {mc:List Value} {M:bZ} {B:List Nat} {bx:Nat} {t:TypeId} {o:Obj} {us:List Value} {u:aU} {sk:Bool} {ft:Int} (own:gJ h5 mc M B) (nd:Nd B) (fr:∀ b∈B,h4 b=none) (hl:h.le h4) (LH:h4.le h5) (U:h4 bx=some o) (hn:h bx=none)
  (hg:h6 bx=some (.cells (us++mc++[Value.bool sk,Value.int .i64 ft]).toArray t (0,0))) (aG:∀ b,b≠bx->h6 b=h5 b) (hu:dL h us u):XM h h6 bx us u M sk ft B:=by
 have sH:bx ∉ B:=λhx=>by have:=fr bx hx;rw[U]at this;cases this
 refine⟨⟨λb x hx=>?_,⟨mc,t,hg,own.aG λb eX o ho=>?_⟩,?_,λb hx=>?_⟩,hu⟩
 ·have:b≠bx:=by rintro rfl;rw[hn]at hx;cases hx
  rw[aG b this];exact LH _ _ (hl _ _ hx)
 ·have:b≠bx:=by rintro rfl;exact sH eX
  rw[aG b this];exact ho
 ·intro a;have:=nd a;by_cases ha:bx=a
  ·subst ha;simp[List.count_eq_zero.2 sH]
  ·simp[ha];exact this
 ·rcases List.mem_cons.1 hx with rfl|hx
  ·exact hn
  ·cases hh:h b with
   | none=>rfl
   | some o=>have:=fr b hx;rw[hl _ _ hh]at this;cases this
theorem XM.out {h0 h:Heap} {bx:Nat} {us:List Value} {u:aU} {M:bZ} {sk:Bool} {ft:Int} {B:List Nat} (hX:XM h0 h bx us u M sk ft B):∃ po co pf cf ps cs,eG h bx 2 7=some (kr po co pf cf ps cs M)/\gJ h (kr po co pf cf ps cs M) M B/\Nd B/\∀ b∈B,h0 b=none:=by
 have yw:=hX.Gd;obtain⟨⟨le,⟨mc,t,U,own⟩,nd,fr⟩,_⟩:=hX;obtain⟨po,co,pf,cf,ps,cs,rfl⟩:=own.kr;refine⟨po,co,pf,cf,ps,cs,?_,own,nd.less λa=>by simp only[List.count_cons];omega,λb hx=>fr b (List.mem_cons_of_mem _ hx)⟩;have h7:(kr po co pf cf ps cs M).length=7:=rfl;rw[bP U 7 2 (by simp[yw,h7])];congr 1
 rw[List.append_assoc,List.drop_append_of_le_length (by omega),<-yw,List.drop_length,List.nil_append];have:(7:Nat)=(kr po co pf cf ps cs M).length:=rfl;rw[this,List.take_left]
theorem XM.rL {h0 h:Heap} {bx:Nat} {us:List Value} {u:aU} {M:bZ} {sk:Bool} {ft n:Int} {B:List Nat} {K:Heap->Prop} (hX:XM h0 h bx us u M sk ft B) (hk:∀ h',XM h0 h' bx us u {M with steps:=n} sk ft B->K h'):St h bx 5 [.int .i64 n] K:=by
 have yw:=hX.Gd;obtain⟨t,vo,vf,vs,U,_,_,_,eF⟩:=hX.ma.ints;have hr:=(eF {M with steps:=n} rfl rfl rfl).1;refine kJ U (i:=3) (aB vo vf vs {M with steps:=n}) (by rw[yw]) (by simp[aB]) rfl (λh' e' _=>?_);rw[<-e']at hr;exact hk h' ⟨hr,hX.un⟩
theorem XM.OR {h0 h:Heap} {bx:Nat} {us:List Value} {u:aU} {M:bZ} {sk:Bool} {ft n:Int} {B:List Nat} {K:Heap->Prop} (hX:XM h0 h bx us u M sk ft B) (hk:∀ h',XM h0 h' bx us u {M with fin:=n} sk ft B->K h'):St h bx 6 [.int .i64 n] K:=by
 have yw:=hX.Gd;obtain⟨t,vo,vf,vs,U,_,_,_,eF⟩:=hX.ma.ints;have hr:=(eF {M with fin:=n} rfl rfl rfl).1;refine kJ U (i:=4) (aB vo vf vs {M with fin:=n}) (by rw[yw]) (by simp[aB]) rfl (λh' e' _=>?_);rw[<-e']at hr;exact hk h' ⟨hr,hX.un⟩
theorem vQ {K:Value->Heap->Prop} {E:List PanicEntry->Heap->Prop} (mc:List Value) (M:bZ) (h:Heap) (hr:xZ h mc M)
  (hK:∀ h' po co pf cf ps cs B,h.le h'->gJ h' (kr po co pf cf ps cs M) M B->Nd B->(∀ b∈B,h b=none)->K (.agg ⟨kr po co pf cf ps cs M⟩) h'):jA prog 50 [.agg ⟨mc⟩] h K E:=cE (Ag mc M h hr) (λv h' hh=>by
 obtain⟨l1,F5,B,rfl,own,nd,fr⟩:=hh;obtain⟨po,co,pf,cf,ps,cs,rfl⟩:=own.kr;exact⟨l1,hK h' po co pf cf ps cs B l1 own nd fr⟩)
theorem yE {K:Value->Heap->Prop} {E:List PanicEntry->Heap->Prop} (mc:List Value) (M:bZ) (h:Heap) (hr:xZ h mc M)
  (hK:∀ h' po co pf cf ps cs B,h.le h'->gJ h' (kr po co pf cf ps cs M) M B->Nd B->(∀ b∈B,h b=none)->K (.agg ⟨kr po co pf cf ps cs M⟩) h'):Vc.Call prog 50 [.agg ⟨mc⟩] h K E:=aD (Ag mc M h hr) (λv h' hh=>by
 obtain⟨l1,F5,B,rfl,own,nd,fr⟩:=hh;obtain⟨po,co,pf,cf,ps,cs,rfl⟩:=own.kr;exact hK h' po co pf cf ps cs B l1 own nd fr)
def pV (u:aU) (fs:List bU) (f:bU) (M:bZ):bZ:=match lz u fs f M with
 | .ok M'=>{M' with steps:=M.steps+1}
 | .error k=>if k=0 then {M with fin:=3,steps:=M.steps+1}else {cK u k M with steps:=M.steps+1}
theorem Gk {u:aU} {M:bZ} {fs:List bU} {f:bU} (hf:M.ag=fs++[f]) (hg:¬(M.fin≠0\/200<=M.steps\/200<=M.said.length\/207<=M.objs.length)):gY u M=pV u fs f M:=by
 rw[z9 hf hg];unfold pV;cases hd:lz u fs f M with
 | ok M'=>simp only[Ad hd]
 | error k =>
  by_cases hk:k=0
  ·simp[hk]
  ·simp[hk,pz]
theorem Hx (mc us:List Value) (u:aU) (M:bZ) (h:Heap) (fs:List bU) (f:bU) (hr:xZ h mc M) (hu:dL h us u) (hT:eC u) (hI:zC u M) (hf:M.ag=fs++[f]) (eZ:M.fin=0) :
  bI prog 45 [.agg ⟨us⟩,.agg ⟨mc⟩] h λv h'=>h.le h'/\∃ F5 B,v=.agg ⟨F5⟩/\gJ h' F5 (pV u fs f M) B/\Nd B/\∀ b∈B,h b=none:=by
 have gD:=hr;have iJ:=hu;have LW:=Nj u M fs f hT hI hf;have G7:f∈M.ag:=by rw[hf];simp
 have hF:=hI.jy f G7;have dZ:=hI.steps;have abR:M.ag.length=fs.length+1:=by rw[hf];simp
 have Qn:=hI.nf;obtain⟨p,cc,q,d,rfl,hcs,fM,jN,hl2⟩:=hu.form;obtain⟨vo,vf,vs,rfl,s1,s2,ho,gA,hs⟩:=hr;obtain⟨po,co,rfl,_,_⟩:=ho.len;obtain⟨pf,cf,rfl,_,_⟩:=gA.len;obtain⟨ps,cs,iT⟩:∃ p c,vs=.slice p M.said.length c:=by
  obtain⟨_,_,p,c,e,_⟩:=hs;exact⟨p,c,by simpa using e⟩
 subst iT;have cG:fs.length < M.ag.length:=by omega
 have hfe:M.ag[fs.length]=f:=by simp[hf]
 obtain⟨bb,off,xs,hq,e1,v1,v2,rfl,e2,e3⟩:=gA.get cG;rw[hfe]at e1 e2 e3;obtain⟨_,_,pv1,cv1,rfl,_⟩:=e2;obtain⟨_,_,pv2,cv2,rfl,_⟩:=e3;have hi:f.ah.toNat < u.methods.length:=by have:=hF.1;omega
 obtain⟨bu,ou,ms,hqu,eu1,eu2⟩:=fM.get hi;have mY:br u f.ah=u.methods[f.ah.toNat]:=gv hi (by have:=hF.1;omega);obtain⟨p1,c1,p2,c2,p3,c3,p4,c4,e5,k1,k2,k3,k4,k5,k6,k7,k8,d1,d2,d3,d4⟩:=eu2.form;subst e5;rw[<-mY]at k6 d2;have WT:rd h bu (ou+f.ah.toNat*8+5)=some (.slice p2 (br u f.ah).code.length c2):=by rw[mY];exact aK eu1 (i:=5) rfl
 have Hg:=hT.br hF.1;have abS:=hF.2.1;have QY:Ni u M fs f=if f.pc=(br u f.ah).code.length then (M,true,0)else yA u (aR M fs f) ((br u f.ah).code.getD f.pc.toNat dW):=rfl
 generalize iM:Ni u M fs f=res at LW QY;have zz:off+(((M.ag.length:Int)-1).toNat)*4=off+fs.length*4:=by omega
 have DZ:eG h bb (off+(((M.ag.length:Int)-1).toNat)*4) 4=some [.int .i64 f.ah,.int .i64 f.pc,.slice pv1 (List.map bR f.locals).length cv1,.slice pv2 (List.map bR f.stack).length cv2]:=by rw[zz];exact e1
 have tT:(∃ M',res=(M',false,0)/\pV u fs f M = {M' with steps:=M.steps+1})\/(res.2.1=true/\pV u fs f M = {M with fin:=3,steps:=M.steps+1})\/(∃ k,(0 < k/\k<=7)/\res.2.1=false/\res.2.2=k/\pV u fs f M = {cK u k M with steps:=M.steps+1}):=by
  cases hd:lz u fs f M with
  | ok M' =>
   rw[hd]at LW;exact .inl ⟨M',LW,by unfold pV;rw[hd]⟩
  | error k =>
   rw[hd]at LW;have sP:=Bj hd;by_cases hk:k=0
   ·refine .inr (.inl ⟨?_,by unfold pV;rw[hd];simp[hk]⟩);simpa [Rl,hk]using LW
   ·refine .inr (.inr ⟨k,sP.resolve_left hk,?_⟩);have:res.2.1=false/\res.2.2=k:=by simpa [Rl,hk]using LW
    exact⟨this.1,this.2,by unfold pV;rw[hd];simp[hk]⟩
 generalize pV u fs f M=Mx at tT ⊢;have WU:f.pc≠(br u f.ah).code.length->WM u (aR M fs f):=λhp=>⟨⟨⟨hI.len.1,by show M.objs.length<=300;have:=hI.len.2;omega⟩,hI.objs,by show fs.length<=3;omega,hF,by show(0:Int)<=0;omega⟩,λg hg=>hI.jy g (by rw[hf];simp;exact .inl hg),rfl,rfl,by show f.pc < ((br u f.ah).code.length:Int);omega,by show M.said.length<=300;have:=hI.pU;omega⟩
 have aaV:(aR M fs f).Bm=M:=by unfold aR Sx.Bm;rw[<-hf]
 have Km:∀ k,0 < k->k<=7->mG u k M false 0=(cK u k M,false,0):=λk h1 h2=>by
  unfold mG;rw[hI.low k h1 h2,if_neg];rw[tV hT.1 (by omega) (by have:=hT.1.1;omega)];simp
 have E6:∀ m∈u.methods,∀ c∈m.catches,(0<=c.hi/\c.hi<=1000)/\0<=c.cls:=λm hm c hc=>by
  have Hg:=hT.2.2.2.1 m hm;have h1:=Hg.2.2.2 c hc;have h2:=Hg.2.1.2.1;obtain⟨q1,q2,q3,_⟩:=h1;omega
 have mw:f.pc≠(br u f.ah).code.length->∃ bc oc ck ca cb,p2=some ⟨bc,oc,none⟩/\eG h bc (oc+f.pc.toNat*3) 3=some [.int .i64 ck,.int .i64 ca,.int .i64 cb]/\eH u (br u f.ah) ⟨ck,ca,cb⟩/\(br u f.ah).code.getD f.pc.toNat dW=⟨ck,ca,cb⟩:=by
  intro hp;have QZ:f.pc.toNat < (br u f.ah).code.length:=by omega
  obtain⟨bc,oc,cvs,JE,f1,f2,f3⟩:=k6.get QZ;have hg:(br u f.ah).code.getD f.pc.toNat dW=(br u f.ah).code[f.pc.toNat]:=by simp[QZ]
  subst f2;exact⟨bc,oc,_,_,_,JE,f1,Hg.2.1.2.2.2.1 _ (List.getElem_mem QZ),hg⟩
 have abz:=Hg.2.1.2.1;refine bS au func45 F45 ZG rfl ?_;unfold aB;conv=>whnf
 repeat' ((first|exact trivial|apply And.intro|refine vQ _ M h gD (λh1 po1 co1 pf1 cf1 ps1 cs1 B1 l1 aaW nd1 fr1=>?_))<;>conv=>whnf)
 refine dI ([.slice p u.J.length cc,.slice q u.methods.length d]++kr po1 co1 pf1 cf1 ps1 cs1 M++[.bool false,.int .i64 0]) rfl (λbx h2 eX ee2 l2 g2=>?_);have oE:XM h h2 bx [.slice p u.J.length cc,.slice q u.methods.length d] u M false 0 B1:=XM.made aaW nd1 fr1 l1 eX l2 g2 iJ;have Gl:=Heap.le_trans l1 l2;have WV:h bx=none:=by
  cases hh:h bx with
  | none=>rfl
  | some o=>rw[l1 bx o hh]at eX;cases eX
 have aaX:=bK Gl DZ;have Kn:=aX Gl WT;conv=>whnf
 refine aj ?_;conv=>whnf
 refine aq ?_;conv=>whnf
 refine aO hq ?_;conv=>whnf
 refine dK aaX ?_;conv=>whnf
 repeat' ((first|exact trivial|apply And.intro|refine ob (by have:=hF.1;omega) ?_|refine aO hqu ?_|refine ld Kn ?_)<;>conv=>whnf)
 apply ax<;>intro YF;all_goals conv=>whnf
 ·have Gm:res=(M,true,0):=by rw[QY,if_pos YF]
  refine oE.stuck (λh3 kL rT e3=>?_);obtain⟨B3,hB3⟩:∃ B3,B3=B1:=⟨_,rfl⟩
  rw[<-hB3]at kL;replace kL:XM h h3 bx [.slice p u.J.length cc,.slice q u.methods.length d] u res.1 res.2.1 res.2.2 B3:=by rw[Gm];exact kL
  have Ko:=kL.ma.le;refine tT.elim (λhA=>?_) (λtT=>tT.elim (λhB=>?_) (λhC=>?_))
  ·refine hA.elim λM' hA=>?_;have Kq:=hA.2;have Ks:=hA.1;rw[Ks]at kL;have r9:=kL.kT.1;have gV:=kL.kT.2.1;conv=>whnf
   repeat' ((first|refine ld r9 ?_|refine ld gV ?_|refine aq ?_|refine aj ?_|refine ptr ?_)<;>conv=>whnf)
   refine kL.rL (λh4 lB=>?_);refine lB.out.elim λHy ho=>ho.elim λHz ho=>ho.elim λHA ho=>ho.elim λHB ho=>ho.elim λHC ho=>ho.elim λHD ho=>?_;have yF:=ho.1;conv=>whnf
   refine dK yF ?_;conv=>whnf
   rw[Kq];exact⟨lB.ma.le,_,B3,rfl,ho.2⟩
  ·have Kq:=hB.2;rw[hB.1]at kL;have r9:=kL.kT.1;conv=>whnf
   repeat' ((first|refine ld r9 ?_|refine aq ?_|refine aj ?_|refine ptr ?_)<;>conv=>whnf)
   refine yE _ M h3 (gD.le Ko) (λh4 Hy Hz HA HB HC HD B4 l4 Fa MR MS=>?_);refine kL.ma.cell.elim λQ0 hc=>hc.elim λt3 hc=>?_;have rU:=hc.1;have WW:Q0.length=7:=by obtain⟨_,_,_,_,_,_,rfl,_⟩:=hc.2;rfl
   conv=>whnf
   refine z7 (l4 _ _ rU) ([.slice p u.J.length cc,.slice q u.methods.length d]++kr Hy Hz HA HB HC HD M++[.bool true,.int .i64 res.2.2]) (by simp[WW]) (mg (by simp) (by rw[WW];rfl)) (λh5 e5 g5=>?_);have Q1:XM h h5 bx [.slice p u.J.length cc,.slice q u.methods.length d] u M true res.2.2 B4:=XM.again Fa MR MS Ko l4 rU WV g5 (λb U=>by rw[e5];simp only[Heap.set,U,if_false]) iJ;conv=>whnf
   refine Q1.OR (λh6 Nk=>?_);conv=>whnf
   refine aj ?_;conv=>whnf
   refine Nk.rL (λh7 Kt=>?_);refine Kt.out.elim λHy ho=>ho.elim λHz ho=>ho.elim λHA ho=>ho.elim λHB ho=>ho.elim λHC ho=>ho.elim λHD ho=>?_;have yF:=ho.1;conv=>whnf
   refine dK yF ?_;conv=>whnf
   rw[Kq];exact⟨Kt.ma.le,_,B4,rfl,ho.2⟩
  ·refine hC.elim λk hC=>?_;have hk:=hC.1;have Kq:=hC.2.2.2;have dD:=Km k hk.1 hk.2;rw[hC.2.1,hC.2.2.1]at kL;have r9:=kL.kT.1;have gV:=kL.kT.2.1;conv=>whnf
   refine ld r9 ?_;conv=>whnf
   refine ld gV ?_;conv=>whnf
   refine fX hk.1 ?_;conv=>whnf
   refine ld gV ?_;conv=>whnf
   repeat' ((first|exact trivial|apply And.intro|refine vQ _ M h3 (gD.le Ko) (λh4 Hy Hz HA HB HC HD B4 l4 Fa MR MS=>?_))<;>conv=>whnf)
   refine dI ([.slice p u.J.length cc,.slice q u.methods.length d]++kr Hy Hz HA HB HC HD M++[.bool false,.int .i64 0]) rfl (λWX h5 qw ee5 l5 g5=>?_);have Q2:∀ b∈B4,h b=none:=λb U=>by
    cases hh:h b with
    | none=>rfl
    | some o=>have:=MS b U;rw[Ko b o hh]at this;cases this
   have Q1:XM h h5 WX [.slice p u.J.length cc,.slice q u.methods.length d] u M false 0 B4:=XM.made Fa MR Q2 (Heap.le_trans Ko l4) qw l5 g5 iJ;have Ku:=Bu Q1 hT.1 k (by have:=hI.len;omega) (by have:=hI.len;omega) (by omega) (by rw[hI.low k hk.1 hk.2];have:=hT.1.1;omega) (λg hg=>(hI.jy g hg).1) E6;rw[dD]at Ku;conv=>whnf
   refine aD Ku (λv h6 hh=>?_);refine hh.elim λB6 hh=>?_;have Nk:XM h h6 WX [.slice p u.J.length cc,.slice q u.methods.length d] u (cK u k M) false 0 B6:=hh.1;have w9:=Nk.kT.1;conv=>whnf
   refine ld w9 ?_;conv=>whnf
   refine aj ?_;conv=>whnf
   refine Nk.rL (λh7 Kt=>?_);refine Kt.out.elim λHy ho=>ho.elim λHz ho=>ho.elim λHA ho=>ho.elim λHB ho=>ho.elim λHC ho=>ho.elim λHD ho=>?_;have yF:=ho.1;conv=>whnf
   refine dK yF ?_;conv=>whnf
   rw[Kq];exact⟨Kt.ma.le,_,B6,rfl,ho.2⟩
 ·have Gm:res=yA u (aR M fs f) ((br u f.ah).code.getD f.pc.toNat dW):=by rw[QY,if_neg YF]
  refine(mw YF).elim λbc hc=>hc.elim λoc hc=>hc.elim λck hc=>hc.elim λca hc=>hc.elim λcb hc=>?_;have JE:=hc.1;have VX:=bK Gl hc.2.1;have WA:XS h h2 bx [.slice p u.J.length cc,.slice q u.methods.length d] u (aR M fs f) B1:=by
   show XM h h2 bx _ u (aR M fs f).Bm false 0 B1;rw[aaV];exact oE
  have JM:=QV WA (WU YF) hT ck ca cb hc.2.2.1;rw[hc.2.2.2]at Gm;rw[<-Gm]at JM;repeat' ((first|exact trivial|apply And.intro|refine ob (by have:=hF.1;omega) ?_|refine aO hqu ?_|refine ld Kn ?_|refine aO JE ?_|refine dK VX ?_)<;>conv=>whnf)
  refine aD JM (λv h3 hh=>?_);refine hh.elim λB3 hh=>?_;have kL:=hh.1;have Ko:=kL.ma.le;refine tT.elim (λhA=>?_) (λtT=>tT.elim (λhB=>?_) (λhC=>?_))
  ·refine hA.elim λM' hA=>?_;have Kq:=hA.2;have Ks:=hA.1;rw[Ks]at kL;have r9:=kL.kT.1;have gV:=kL.kT.2.1;conv=>whnf
   repeat' ((first|refine ld r9 ?_|refine ld gV ?_|refine aq ?_|refine aj ?_|refine ptr ?_)<;>conv=>whnf)
   refine kL.rL (λh4 lB=>?_);refine lB.out.elim λHy ho=>ho.elim λHz ho=>ho.elim λHA ho=>ho.elim λHB ho=>ho.elim λHC ho=>ho.elim λHD ho=>?_;have yF:=ho.1;conv=>whnf
   refine dK yF ?_;conv=>whnf
   rw[Kq];exact⟨lB.ma.le,_,B3,rfl,ho.2⟩
  ·have Kq:=hB.2;rw[hB.1]at kL;have r9:=kL.kT.1;conv=>whnf
   repeat' ((first|refine ld r9 ?_|refine aq ?_|refine aj ?_|refine ptr ?_)<;>conv=>whnf)
   refine yE _ M h3 (gD.le Ko) (λh4 Hy Hz HA HB HC HD B4 l4 Fa MR MS=>?_);refine kL.ma.cell.elim λQ0 hc=>hc.elim λt3 hc=>?_;have rU:=hc.1;have WW:Q0.length=7:=by obtain⟨_,_,_,_,_,_,rfl,_⟩:=hc.2;rfl
   conv=>whnf
   refine z7 (l4 _ _ rU) ([.slice p u.J.length cc,.slice q u.methods.length d]++kr Hy Hz HA HB HC HD M++[.bool true,.int .i64 res.2.2]) (by simp[WW]) (mg (by simp) (by rw[WW];rfl)) (λh5 e5 g5=>?_);have Q1:XM h h5 bx [.slice p u.J.length cc,.slice q u.methods.length d] u M true res.2.2 B4:=XM.again Fa MR MS Ko l4 rU WV g5 (λb U=>by rw[e5];simp only[Heap.set,U,if_false]) iJ;conv=>whnf
   refine Q1.OR (λh6 Nk=>?_);conv=>whnf
   refine aj ?_;conv=>whnf
   refine Nk.rL (λh7 Kt=>?_);refine Kt.out.elim λHy ho=>ho.elim λHz ho=>ho.elim λHA ho=>ho.elim λHB ho=>ho.elim λHC ho=>ho.elim λHD ho=>?_;have yF:=ho.1;conv=>whnf
   refine dK yF ?_;conv=>whnf
   rw[Kq];exact⟨Kt.ma.le,_,B4,rfl,ho.2⟩
  ·refine hC.elim λk hC=>?_;have hk:=hC.1;have Kq:=hC.2.2.2;have dD:=Km k hk.1 hk.2;rw[hC.2.1,hC.2.2.1]at kL;have r9:=kL.kT.1;have gV:=kL.kT.2.1;conv=>whnf
   refine ld r9 ?_;conv=>whnf
   refine ld gV ?_;conv=>whnf
   refine fX hk.1 ?_;conv=>whnf
   refine ld gV ?_;conv=>whnf
   repeat' ((first|exact trivial|apply And.intro|refine vQ _ M h3 (gD.le Ko) (λh4 Hy Hz HA HB HC HD B4 l4 Fa MR MS=>?_))<;>conv=>whnf)
   refine dI ([.slice p u.J.length cc,.slice q u.methods.length d]++kr Hy Hz HA HB HC HD M++[.bool false,.int .i64 0]) rfl (λWX h5 qw ee5 l5 g5=>?_);have Q2:∀ b∈B4,h b=none:=λb U=>by
    cases hh:h b with
    | none=>rfl
    | some o=>have:=MS b U;rw[Ko b o hh]at this;cases this
   have Q1:XM h h5 WX [.slice p u.J.length cc,.slice q u.methods.length d] u M false 0 B4:=XM.made Fa MR Q2 (Heap.le_trans Ko l4) qw l5 g5 iJ;have Ku:=Bu Q1 hT.1 k (by have:=hI.len;omega) (by have:=hI.len;omega) (by omega) (by rw[hI.low k hk.1 hk.2];have:=hT.1.1;omega) (λg hg=>(hI.jy g hg).1) E6;rw[dD]at Ku;conv=>whnf
   refine aD Ku (λv h6 hh=>?_);refine hh.elim λB6 hh=>?_;have Nk:XM h h6 WX [.slice p u.J.length cc,.slice q u.methods.length d] u (cK u k M) false 0 B6:=hh.1;have w9:=Nk.kT.1;conv=>whnf
   refine ld w9 ?_;conv=>whnf
   refine aj ?_;conv=>whnf
   refine Nk.rL (λh7 Kt=>?_);refine Kt.out.elim λHy ho=>ho.elim λHz ho=>ho.elim λHA ho=>ho.elim λHB ho=>ho.elim λHC ho=>ho.elim λHD ho=>?_;have yF:=ho.1;conv=>whnf
   refine dK yF ?_;conv=>whnf
   rw[Kq];exact⟨Kt.ma.le,_,B6,rfl,ho.2⟩
theorem Ds (h:Heap):bI prog 86 [] h λv h'=>h.le h'/\∃ p c B,v=.slice p 7 c/\eE lu 2 h' v (gE 7) B/\Nd B/\∀ b∈B,h b=none:=by
 refine bS au func86 F86 Z8 rfl ?_;conv=>whnf
 refine dI [] rfl (λb0 h1 uY e0 l1 g0=>?_);conv=>whnf
 refine fm [1,2] [] (λs:Nat × Heap × Option Addr × Nat × List Nat=>s.1<=7/\Acc lu 2 h s.2.1 (.slice s.2.2.1 s.1 s.2.2.2.1) (gE s.1) s.2.2.2.2 []) (λs=>7-s.1)
  (λs=>([.v (.slice s.2.2.1 s.1 s.2.2.2.1),.v (.int .i64 ((s.1:Int)+1))],[],s.2.1))
  (0,h1,some ⟨b0,0,none⟩,0,[b0]) ⟨by omega,Acc.E8 l1 uY g0 (by simp) (λ_=>by simp) (by simp) (by simp)⟩ rfl ?_
 rintro⟨i,h2,pp,cp,B⟩ ⟨hi7,ac⟩;simp only at hi7 ac ⊢;conv=>whnf
 apply ax<;>intro g;all_goals conv=>whnf
 ·refine ay (nY _ _) ?_;conv=>whnf
  refine dI [.bool false,.int .i64 ((i:Int)+1)] rfl (λb h3 U hh l3 hg=>?_);conv=>whnf
  refine rC jD xX (a:=m5 ((i:Int)+1)) (Bi:=[b]) ac l3 ⟨_,rfl,fR (vs:=[bR ⟨false,(i:Int)+1⟩]) (t:=33) (by simp[bR]) rfl (by rw[hg];rfl)⟩ (λa=>by simp only[List.count_cons,List.count_nil];split<;>omega) (by simpa using U) rfl rfl rfl rfl (by rw[fP];simp;omega) (by rw[fP];omega) ?_;intro p' c' h4 B' CX hk;rw[fP,<-uq]at CX;rw[fP];conv=>whnf
  refine aj ?_;conv=>whnf
  exact dm (i+1,h4,p',c',B') ⟨by omega,CX⟩ (by simp only;omega) rfl
 ·have hi6:i=7:=by omega
  subst hi6;exact⟨ac.le,_,_,B,rfl,ac.own,by have:=ac.nd;simpa using this,λb U=>ac.fr b (by simp[U])⟩
theorem wJ {K:Value->Heap->Prop} {E:List PanicEntry->Heap->Prop} (h:Heap) (hK:∀ h' p c B,h.le h'->eE lu 2 h' (.slice p 7 c) (gE 7) B->Nd B->(∀ b∈B,h b=none)->K (.slice p 7 c) h'):jA prog 86 [] h K E:=cE (Ds h) (λv h' hh=>by
 obtain⟨l1,p,c,B,rfl,own,nd,fr⟩:=hh;exact⟨l1,hK h' p c B l1 own nd fr⟩)
theorem Nd.two {A B:List Nat} (ha:Nd A) (U:Nd B) (hd:∀ b∈B,b ∉ A):Nd (A++B):=by
 intro a;have e1:=ha a;have e2:=U a;simp only[List.count_append];by_cases hm:a∈B
 ·have:=List.count_eq_zero.2 (hd a hm);omega
 ·have:=List.count_eq_zero.2 hm;omega
theorem fu {h h':Heap} (hl:h.le h') {b:Nat} (U:h' b=none):h b=none:=by
 cases hh:h b with
 | none=>rfl
 | some o=>rw[hl b o hh]at U;cases U
theorem kA {h1 hx:Heap} {G:List Nat} (fI:∀ b∈G,∃ o,h1 b=some o) (hl:h1.le hx) {b:Nat} (U:hx b=none):b ∉ G:=λhm=>by
 obtain⟨o,ho⟩:=fI b hm;rw[hl b o ho]at U;cases U
theorem eE.xX {h:Heap} {v:Value} {l:List Ob} {B:List Nat} (ho:eE lu 2 h v l B):∀ b∈B,∃ o,h b=some o:=ho.in Go.Proofs.xX
theorem vR {h:Heap} {v w:Value} {l k:List Vl} {A B:List Nat} (ha:cq h v l A) (U:cq h w k B):∀ b∈A++B,∃ o,h b=some o:=λb hx=>(List.mem_append.1 hx).elim (ha.in b) (U.in b)
theorem uE (u:aU) {h h1 h2 hf:Heap} {p1 p2 p3:Option Addr} {c1 n2 c2 n3 c3 b5 b7:Nat} {B1 B2 B3:List Nat} {t5 t7:TypeId} (hm:(br u 0).locals<=3) (o1:eE lu 2 h1 (.slice p1 7 c1) (gE 7) B1) (l1:h1.le hf) (o2:cq h2 (.slice p2 n2 c2) (gW u 0 []).locals B2) (o3:cq h2 (.slice p3 n3 c3) [] B3) (l2:h2.le hf)
  (g7:hf b7=some (.cells #[.int .i64 0,.int .i64 0,.slice p2 n2 c2,.slice p3 n3 c3] t7 (0,0))) (g5:hf b5=some (.cells #[] t5 (0,0))) (n1:Nd B1) (OS:Nd (B2++B3)) (d1:∀ b∈B2++B3,b ∉ B1) (d2:b7 ∉ B1) (d3:b7 ∉ B2++B3) (d4:b5 ∉ B1) (d5:b5 ∉ B2++B3) (d6:b5≠b7)
  (f1:∀ b∈B1,h b=none) (f23:∀ b∈B2++B3,h b=none) (f7:h b7=none) (f5:h b5=none) (hl:h.le hf) :
  h.le hf/\∃ mc B,(Value.agg #[.slice p1 7 c1,.slice (some ⟨b7,0,none⟩) 1 1,.slice (some ⟨b5,0,none⟩) 0 0,.int .i64 0,.int .i64 0,.bool false,.int .i64 0])=.agg ⟨mc⟩/\gJ hf mc (ny u) B/\Nd B/\∀ b∈B,h b=none:=by
 have gA:eE oY 4 hf (.slice (some ⟨b7,0,none⟩) 1 1) (ny u).ag ([b7]++(B2++B3)) :=
  ⟨[[.int .i64 0,.int .i64 0,.slice p2 n2 c2,.slice p3 n3 c3]],[b7],B2++B3,fR (t:=t7) (by simp) rfl (by rw[g7];rfl),Rows.one ⟨_,_,B2,B3,rfl,by
   have:=o2.aG (cC.of_le l2 _);simp only[gW,List.length_nil,Nat.sub_zero,List.nil_append]at this;exact this,o3.aG (cC.of_le l2 _),rfl⟩,rfl⟩
 refine⟨hl,_,B1++([b7]++(B2++B3))++[b5],rfl,⟨_,_,_,B1,[b7]++(B2++B3),[b5],rfl,o1.aG jD (cC.of_le l1 _),gA,dP g5,rfl⟩,?_,λb U=>?_⟩
 ·refine Nd.two (Nd.two n1 (Nd.two (λa=>by simp only[List.count_cons,List.count_nil];split<;>omega) OS (λb U hx=>?_)) (λb U=>?_)) (λa=>by simp only[List.count_cons,List.count_nil];split<;>omega) (λb U hx=>?_)
  ·rw[List.mem_singleton.1 hx]at U;exact d3 U
  ·rcases List.mem_append.1 U with U|U
   ·rw[List.mem_singleton.1 U];exact d2
   ·exact d1 b U
  ·rw[List.mem_singleton.1 U]at hx;simp only[List.mem_append,List.mem_singleton]at hx d5;rcases hx with hx|hx|hx
   ·exact d4 hx
   ·exact d6 hx
   ·exact d5 hx
 ·simp only[List.mem_append,List.mem_singleton]at U f23;rcases U with (U|rfl|U)|rfl
  ·exact f1 b U
  ·exact f7
  ·exact f23 b U
  ·exact f5
theorem yG {h1 hx:Heap} {a b:Nat} {o:Obj} (ha:h1 a=some o) (hl:h1.le hx) (U:hx b=none):a≠b:=λe=>by
 subst e;rw[hl a o ha]at U;cases U
theorem Fb (us:List Value) (u:aU) (h:Heap) (hu:dL h us u) (hT:eC u) :
  bI prog 44 [.agg ⟨us⟩] h λv h'=>h.le h'/\∃ mc B,v=.agg ⟨mc⟩/\gJ h' mc (ny u) B/\Nd B/\∀ b∈B,h b=none:=by
 have iJ:=hu;obtain⟨p,cc,q,d,rfl,hcs,fM,jN,hl2⟩:=hu.form;have ez:=rA _ u h iJ;rw[lW hT]at ez;have h0:0<=(0:Int)/\(0:Int) < u.methods.length:=by have:=hT.2.1.1;omega
 have nr:=(hT.br h0).1.2.2.2.2.1;have cD:nT h (.slice none 0 0) []:=⟨by simp,by simp,none,0,rfl,by simp,.inl rfl⟩
 refine bS au func44 F44 ZF rfl ?_;conv=>whnf
 refine ay ez ?_;conv=>whnf
 repeat' ((first|exact uE u nr o1 (Heap.le_trans l2 (Heap.le_trans l7 l5)) o2 o3 (Heap.le_trans l7 l5) (l5 _ _ g7) g5 n1 OS (λb U=>kA o1.xX (Heap.le_refl _) (f23 b U)) (kA o1.xX l2 Dm) (kA (vR o2 o3) (Heap.le_refl _) Dm) (kA o1.xX (Heap.le_trans l2 l7) qw) (kA (vR o2 o3) l7 qw) (yG g7 (Heap.le_refl _) qw).symm f1 (λb U=>fu l1 (f23 b U)) (fu (Heap.le_trans l1 l2) Dm) (fu (Heap.le_trans l1 (Heap.le_trans l2 l7)) qw) (Heap.le_trans l1 (Heap.le_trans l2 (Heap.le_trans l7 l5)))|exact uE u nr o1 (Heap.le_trans l2 (Heap.le_trans l5 l7)) o2 o3 (Heap.le_trans l5 l7) g7 (l7 _ _ g5) n1 OS (λb U=>kA o1.xX (Heap.le_refl _) (f23 b U)) (kA o1.xX (Heap.le_trans l2 l5) Dm) (kA (vR o2 o3) l5 Dm) (kA o1.xX l2 qw) (kA (vR o2 o3) (Heap.le_refl _) qw) (yG g5 (Heap.le_refl _) Dm) f1 (λb U=>fu l1 (f23 b U)) (fu (Heap.le_trans l1 (Heap.le_trans l2 l5)) Dm) (fu (Heap.le_trans l1 l2) qw) (Heap.le_trans l1 (Heap.le_trans l2 (Heap.le_trans l5 l7)))|exact uE u nr o1 (Heap.le_trans l5 (Heap.le_trans l2 l7)) o2 o3 l7 g7 (l7 _ _ (l2 _ _ g5)) n1 OS (λb U=>kA o1.xX l5 (f23 b U)) (kA o1.xX (Heap.le_trans l5 l2) Dm) (kA (vR o2 o3) (Heap.le_refl _) Dm) (kA o1.xX (Heap.le_refl _) qw) (λhx=>yG g5 (Heap.le_refl _) (f23 _ hx) rfl) (yG g5 l2 Dm) f1 (λb U=>fu (Heap.le_trans l1 l5) (f23 b U)) (fu (Heap.le_trans l1 (Heap.le_trans l5 l2)) Dm) (fu l1 qw) (Heap.le_trans l1 (Heap.le_trans l5 (Heap.le_trans l2 l7)))|exact uE u nr o1 (Heap.le_trans l2 l7) o2 o3 l7 g7 (l7 _ _ (l2 _ _ (l1 _ _ g5))) n1 OS (λb U=>kA o1.xX (Heap.le_refl _) (f23 b U)) (kA o1.xX l2 Dm) (kA (vR o2 o3) (Heap.le_refl _) Dm) (λhx=>yG g5 (Heap.le_refl _) (f1 _ hx) rfl) (λhx=>yG g5 l1 (f23 _ hx) rfl) (yG g5 (Heap.le_trans l1 l2) Dm) (λb U=>fu l5 (f1 b U)) (λb U=>fu (Heap.le_trans l5 l1) (f23 b U)) (fu (Heap.le_trans l5 (Heap.le_trans l1 l2)) Dm) qw (Heap.le_trans l5 (Heap.le_trans l1 (Heap.le_trans l2 l7)))|exact trivial|apply And.intro|refine wJ h (λh1 p1 c1 B1 l1 o1 n1 f1=>?_)|refine wJ h5 (λh1 p1 c1 B1 l1 o1 n1 f1=>?_)|refine mH _ u 0 [] _ h1 (iJ.le l1) h0 (cD.le l1) (by simp) (by omega) (λh2 p2 n2 c2 p3 n3 c3 B2 B3 l2 o2 o3 OS f23=>?_)|refine mH _ u 0 [] _ h5 (iJ.le (Heap.le_trans l1 l5)) h0 (cD.le (Heap.le_trans l1 l5)) (by simp) (by omega) (λh2 p2 n2 c2 p3 n3 c3 B2 B3 l2 o2 o3 OS f23=>?_)|refine mH _ u 0 [] _ h1 (iJ.le (Heap.le_trans l5 l1)) h0 (cD.le (Heap.le_trans l5 l1)) (by simp) (by omega) (λh2 p2 n2 c2 p3 n3 c3 B2 B3 l2 o2 o3 OS f23=>?_)|refine dI [] rfl (λb5 h5 qw e5 l5 g5=>?_)|refine dI [.int .i64 0,.int .i64 0,.slice p2 n2 c2,.slice p3 n3 c3] rfl (λb7 h7 Dm e7 l7 g7=>?_))<;>conv=>whnf)
theorem yH {objs o':List Ob} {f f':bU} {v:Vl} (h:di objs f v=.ok (o',f')):o'=objs:=by
 unfold di at h;split at h
 ·simp only[Except.ok.injEq,Prod.mk.injEq]at h;exact h.1.symm
 ·cases h
theorem BA {u:aU} {x:dX} {aS:List Vl} {objs o':List Ob} {f f':bU} (h:bH u x aS objs f=.ok (o',f')):o'.length=objs.length\/o'.length=objs.length+1:=by
 unfold bH at h;simp only[uf]at h;repeat' split at h
 all_goals first
  | (have:=yH h;subst this;simp;done)
  | (simp only[Except.ok.injEq,Prod.mk.injEq]at h;obtain⟨rfl,_⟩:=h;simp[iQ];done)
  | (cases h;done)
theorem HE {u:aU} {x:dX} {aS:List Vl} {objs o':List Ob} {f g:bU} {said jJ:List Int} {p9:Bool} (h:gK u x aS objs f said=.ok (o',g,jJ,p9)) :
  (o'.length=objs.length\/o'.length=objs.length+1)/\(jJ.length=said.length\/jJ.length=said.length+1):=by
 have hp:∀ {f1:bU} {v:Vl},eV objs f1 said v=.ok (o',g,jJ,p9)->(o'.length=objs.length\/o'.length=objs.length+1)/\(jJ.length=said.length\/jJ.length=said.length+1):=by
  intro f1 v h;obtain⟨o,g1,h1,e⟩:=vL h;simp only[Prod.mk.injEq]at e;obtain⟨rfl,rfl,rfl,rfl⟩:=e;rw[yH h1];simp
 have hs:∀ {s:List Int} {f1:bU} {b:Bool},(s.length=said.length\/s.length=said.length+1)->(Except.ok (objs,f1,s,b):RV)=.ok (o',g,jJ,p9)->(o'.length=objs.length\/o'.length=objs.length+1)/\(jJ.length=said.length\/jJ.length=said.length+1):=by
  intro s f1 b U e;simp only[Except.ok.injEq,Prod.mk.injEq]at e;obtain⟨rfl,rfl,rfl,rfl⟩:=e;exact⟨.inl rfl,U⟩
 unfold gK at h;simp only at h;by_cases k1:x.kind=1
 ·rw[if_pos k1]at h;exact hp h
 rw[if_neg k1]at h;by_cases k2:x.kind=2
 ·rw[if_pos k2]at h;exact hp h
 rw[if_neg k2]at h;by_cases k3:x.kind=3
 ·rw[if_pos k3]at h;exact hp h
 rw[if_neg k3]at h;by_cases k4:x.kind=4
 ·rw[if_pos k4]at h;exact hs (.inl rfl) h
 rw[if_neg k4]at h;by_cases k5:x.kind=5
 ·rw[if_pos k5]at h;exact hs (.inl rfl) h
 rw[if_neg k5]at h;by_cases k6:x.kind=6
 ·rw[if_pos k6]at h;split at h
  ·exact hp h
  ·cases h
 rw[if_neg k6]at h;by_cases k7:x.kind=7
 ·rw[if_pos k7]at h;split at h
  ·exact hp h
  ·cases h
 rw[if_neg k7]at h;by_cases k8:x.kind=8
 ·rw[if_pos k8]at h;exact hs (.inl rfl) h
 rw[if_neg k8]at h;by_cases k9:x.kind=9
 ·rw[if_pos k9]at h;exact hs (.inl rfl) h
 rw[if_neg k9]at h;by_cases D3:x.kind=10
 ·rw[if_pos D3]at h;exact hs (.inl rfl) h
 rw[if_neg D3]at h;by_cases OM:x.kind=11
 ·rw[if_pos OM]at h;exact hs (.inl rfl) h
 rw[if_neg OM]at h;by_cases Db:x.kind=24
 ·rw[if_pos Db]at h;exact hs (.inr (by simp)) h
 rw[if_neg Db]at h;split at h
 ·rename_i o1 g1 h1;simp only[Except.ok.injEq,Prod.mk.injEq]at h;obtain⟨rfl,rfl,rfl,rfl⟩:=h;exact⟨BA h1,.inl rfl⟩
 ·cases h
theorem wK {u:aU} {n:Int} {M:bZ}:(cK u n M).objs=M.objs/\(cK u n M).said=M.said:=by unfold cK;split<;>exact⟨rfl,rfl⟩
theorem Fc {u:aU} {to:Int} {aS:List Vl} {M M':bZ} (h:jI u to aS M=.ok M'):M'.objs=M.objs/\M'.said=M.said:=by
 unfold jI at h;split at h
 ·cases h
 ·simp only[Except.ok.injEq]at h;subst h;exact⟨rfl,rfl⟩
theorem Kw {u:aU} {fs:List bU} {f:bU} {M M':bZ} (h:lz u fs f M=.ok M'):(M'.objs.length=M.objs.length\/M'.objs.length=M.objs.length+1)/\(M'.said.length=M.said.length\/M'.said.length=M.said.length+1):=by
 have same:∀ {N:bZ},N.objs=M.objs/\N.said=M.said->(N.objs.length=M.objs.length\/N.objs.length=M.objs.length+1)/\(N.said.length=M.said.length\/N.said.length=M.said.length+1):=λhN=>by rw[hN.1,hN.2];simp
 unfold lz at h;simp only at h;split at h
 ·cases h
 ·split at h
  ·cases h
  ·split at h
   ·unfold jk at h;simp only[uj]at h;repeat' split at h
    all_goals first
     | (cases h;done)
     | (have hc:=Fc h;exact same (N:=M') ⟨hc.1,hc.2⟩)
     | (simp only[Except.ok.injEq]at h;subst h;first|exact same ⟨rfl,rfl⟩|exact same wK)
   ·split at h
    ·cases h
    ·rename_i objs g said p9 hm;simp only[Except.ok.injEq]at h;subst h;exact HE hm
def runM (u:aU):Nat->bZ
 | 0=>ny u
 | n+1=>gY u (runM u n)
structure Q3 (u:aU) (n:Nat) (M:bZ):Prop where
 ok:zC u M
 link:mC u M.ag
 le:M.steps<=n
 eq:M.fin=0->M.steps=n
 said:(M.said.length:Int)<=M.steps
 objs:(M.objs.length:Int)<=7+M.steps
theorem yI {u:aU} {M:bZ}:(gY u M=M/\(M.fin≠0\/200<=M.steps\/200<=M.said.length\/207<=M.objs.length\/M.ag=[])) \/
  ((gY u M).steps=M.steps+1/\((gY u M).objs.length=M.objs.length\/(gY u M).objs.length=M.objs.length+1)/\((gY u M).said.length=M.said.length\/(gY u M).said.length=M.said.length+1)/\M.fin=0):=by
 by_cases hg:M.fin≠0\/200<=M.steps\/200<=M.said.length\/207<=M.objs.length
 ·left
  refine⟨?_,by omega⟩;unfold gY;rw[if_pos hg]
 ·rcases List.eq_nil_or_concat M.ag with hn|⟨fs,f,hf⟩
  ·left
   refine⟨?_,by simp[hn]⟩;unfold gY;rw[if_neg hg,hn];rfl
  ·right
   rw[List.concat_eq_append]at hf;rw[Gk hf hg];unfold pV;cases hd:lz u fs f M with
   | ok M' =>
    have:=Kw hd;exact⟨rfl,this.1,this.2,by omega⟩
   | error k =>
    by_cases hk:k=0
    ·simp[hk];omega
    ·simp[hk,wK];omega
theorem Fe {u:aU} (hu:eC u):∀ n:Nat,n<=200->Q3 u n (runM u n)
 | 0,_=>by
  obtain⟨h1,h2⟩:=Qy hu;exact⟨h1,h2,by simp[runM,ny],by simp[runM,ny],by simp[runM,ny],by simp[runM,ny,gE]⟩
 | n+1,hn=>by
  have ih:=Fe hu n (by omega);obtain⟨h1,h2⟩:=MY hu ih.ok ih.link;have hle:=ih.le;have hs:=ih.said;have ho:=ih.objs;show Q3 u (n+1) (gY u (runM u n));rcases yI (u:=u) (M:=runM u n)with ⟨e,hx⟩|⟨e1,e2,e3,e4⟩
  ·rw[e];refine⟨ih.ok,ih.link,by omega,λhf=>?_,hs,ho⟩;have heq:=ih.eq hf;have dZ:=ih.ok.steps;have gA:(runM u n).ag≠[]:=by
    rcases ih.ok.fin with h1|h1|h1
    ·exact h1.2.1
    ·omega
    ·omega
   rcases hx with hx|hx|hx|hx|hx
   ·exact absurd hf hx
   ·omega
   ·omega
   ·omega
   ·exact absurd hx gA
  ·have heq:=ih.eq e4;exact⟨h1,h2,by omega,λ_=>by omega,by omega,by omega⟩
def mL:bZ:=⟨[],[],[],0,0,cJ⟩
def wW (u:aU) (steps:Int):Prop:=eC u/\0<=steps/\steps<=200
def yJ (u:aU) (steps:Int) (R:bZ):Prop:=(wW u steps->R=runM u steps.toNat)/\(¬wW u steps->R=mL)
theorem Dt (u:aU) (steps:Int):∃ R,yJ u steps R:=by
 by_cases h:wW u steps
 ·exact⟨runM u steps.toNat,λ_=>rfl,λhn=>absurd h hn⟩
 ·exact⟨mL,λhp=>absurd hp h,λ_=>rfl⟩
theorem yK (h:Heap):gJ h [.slice none 0 0,.slice none 0 0,.slice none 0 0,.int .i64 0,.int .i64 0,.bool false,.int .i64 0] mL [] :=
 ⟨_,_,_,[],[],[],rfl,⟨[],[],[],⟨by simp,.inl ⟨rfl,rfl,rfl⟩⟩,.nil,rfl⟩,⟨[],[],[],⟨by simp,.inl ⟨rfl,rfl,rfl⟩⟩,.nil,rfl⟩,⟨by simp[mL],.inl ⟨rfl,rfl,rfl⟩⟩,rfl⟩
theorem zC.small {u:aU} (hT:eC u) {M:bZ} (h:zC u M):Small M:=by
 refine⟨by have:=h.len;omega,by have:=h.nf;omega,by have:=h.pU;omega,λo ho=>?_,λf hf=>?_⟩
 ·rcases(h.objs o ho).2 with ⟨_,h2⟩|⟨_,h2,h3⟩
  ·omega
  ·have:=fH hT.1 h2;omega
 ·have hF:=h.jy f hf;have:=(hT.br hF.1).1.2.2.2.2.1;have:=hF.2.2.1;have:=hF.2.2.2.1;omega
def Nl (h:Heap) (M:bZ) (v:Value) (h':Heap):Prop:=h.le h'/\∃ mc B,v=.agg ⟨mc⟩/\gJ h' mc M B/\Nd B/\∀ b∈B,h b=none
theorem Ak {u:aU} {i:Nat} (h:(runM u i).fin≠0):∀ k,runM u (i+k)=runM u i
 | 0=>rfl
 | k+1=>by
  show gY u (runM u (i+k))=_;rw[Ak h k];unfold gY;rw[if_pos (.inl h)]
theorem mM (us:List Value) (u:aU) (steps:Int) (h:Heap) (hu:dL h us u) (R:bZ) (xo:yJ u steps R):bI prog 18 [.agg ⟨us⟩,.int .i64 steps] h (Nl h R):=by
 have iJ:=hu;obtain⟨p,cc,q,d,rfl,hcs,fM,jN,hl2⟩:=hu.form;have ez:=rA _ u h iJ;have bad:¬wW u steps->Nl h R (.agg #[.slice none 0 0,.slice none 0 0,.slice none 0 0,.int .i64 0,.int .i64 0,.bool false,.int .i64 0]) h:=λU=>by
  rw[xo.2 U];exact⟨Heap.le_refl h,_,[],rfl,yK h,λ_=>by simp,by simp⟩
 have Hp:=xo.1;refine bS au func18 F18 Zq rfl ?_;conv=>whnf
 refine ay ez ?_;conv=>whnf
 apply aV<;>intro g1;all_goals conv=>whnf
 ·exact bad (λhx=>g1 hx.1)
 refine ay (er _ _ _ _) ?_;conv=>whnf
 apply aV<;>intro g2;all_goals conv=>whnf
 ·exact bad (λhx=>g2 hx.2)
 have hP:wW u steps:=⟨g1,g2⟩
 have hR:=Hp hP;refine aD (Fb _ u h iJ g1) (λv h1 hh=>?_);refine hh.2.elim λmc0 fU=>fU.elim λB0 fU=>?_;have hv:=fU.1;subst hv;refine fU.2.1.kr.elim λpo0 hf=>hf.elim λco0 hf=>hf.elim λpf0 hf=>hf.elim λcf0 hf=>hf.elim λps0 hf=>hf.elim λcs0 hf=>?_;subst hf;conv=>whnf
 refine fm [1,2,4,5,6] [2,4,5] (λs:Nat × Heap × (Option Addr × Nat) × (Option Addr × Nat) × (Option Addr × Nat) × List Nat=>(s.1:Int)<=steps/\h.le s.2.1/\gJ s.2.1 (kr s.2.2.1.1 s.2.2.1.2 s.2.2.2.1.1 s.2.2.2.1.2 s.2.2.2.2.1.1 s.2.2.2.2.1.2 (runM u s.1)) (runM u s.1) s.2.2.2.2.2/\Nd s.2.2.2.2.2/\∀ b∈s.2.2.2.2.2,h b=none) (λs=>steps.toNat-s.1)
  (λs=>([.v (.int .i64 steps),.l 2 0,.l 4 0,.l 5 0,.v (.int .i64 s.1)],
   [some [.slice p u.J.length cc,.slice q u.methods.length d],some [.slice none 0 0,.slice none 0 0,.slice none 0 0,.int .i64 0,.int .i64 0,.bool false,.int .i64 0],some (kr s.2.2.1.1 s.2.2.1.2 s.2.2.2.1.1 s.2.2.2.1.2 s.2.2.2.2.1.1 s.2.2.2.2.1.2 (runM u s.1))],s.2.1))
  (0,h1,(po0,co0),(pf0,cf0),(ps0,cs0),B0) ⟨by simp;omega,hh.1,fU.2.1,fU.2.2⟩ rfl ?_
 rintro⟨i,h2,⟨po,co⟩,⟨pf,cf⟩,⟨ps,cs⟩,B⟩ ⟨hi,hle,own,nd,fr⟩;simp only at hi hle own nd fr ⊢;unfold kr aB;conv=>whnf
 apply ax<;>intro g;all_goals conv=>whnf
 ·apply ax<;>intro gf;all_goals conv=>whnf
  ·have hI:=Fe g1 i (by omega);have Mo:=own.read (hI.ok.small g1);have gA:∃ fs f,(runM u i).ag=fs++[f]:=by
    rcases List.eq_nil_or_concat (runM u i).ag with e|⟨gs,gl,e⟩
    ·rcases hI.ok.fin with h1|h1|h1
     ·exact absurd e h1.2.1
     ·omega
     ·omega
    ·exact⟨gs,gl,by simpa using e⟩
   refine gA.elim λfs gA=>gA.elim λf gA=>?_;have hsu:pV u fs f (runM u i)=runM u (i+1):=by
    refine(Gk gA ?_).symm;have:=hI.eq gf;have:=hI.said;have:=hI.objs;omega
   have fW:=Hx _ _ u (runM u i) h2 fs f Mo (iJ.le hle) g1 hI.ok gA gf;rw[hsu]at fW;refine aD fW (λv h3 hh=>?_);refine hh.2.elim λQ0 jj=>jj.elim λB3 jj=>?_;have hv:=jj.1;subst hv;have Kx:gJ h3 Q0 (runM u (i+1)) B3:=jj.2.1;refine Kx.kr.elim λpo3 hf=>hf.elim λQD hf=>hf.elim λpf3 hf=>hf.elim λcf3 hf=>hf.elim λps3 hf=>hf.elim λcs3 hf=>?_;subst hf;conv=>whnf
   refine aj ?_;conv=>whnf
   exact dm (i+1,h3,(po3,QD),(pf3,cf3),(ps3,cs3),B3) ⟨by simp only;omega,Heap.le_trans hle hh.1,Kx,jj.2.2.1,λb U=>fu hle (jj.2.2.2 b U)⟩ (by simp only;omega) rfl
  ·have dZ:=Ak gf (steps.toNat-i);have nV:i+(steps.toNat-i)=steps.toNat:=by omega
   rw[nV]at dZ;rw[hR,dZ];exact⟨hle,_,B,rfl,own,nd,fr⟩
 ·have nV:i=steps.toNat:=by omega
  subst nV;rw[hR];exact⟨hle,_,B,rfl,own,nd,fr⟩
theorem mN {h:Heap} {b c:Nat} {l:List Int} {rest:List Value} {t:TypeId} {fz:Nat × Nat} (U:h b=some (.cells (l.map (Value.int .i64)++rest).toArray t fz)) (hl:l.length<=140737488351232) (hc:l.length<=c) (hi:∀ t∈l,cL t):cT h (.slice (some ⟨b,0,none⟩) l.length c) l:=by
 refine⟨hl,_,c,rfl,hc,.inr ⟨b,0,rfl,λi x hx=>?_⟩⟩;obtain⟨cG,rfl⟩:=List.getElem?_eq_some_iff.1 hx;refine⟨[.int .i64 l[i]],?_,rfl,hi _ (List.getElem_mem cG)⟩;have e:rd h b (0+i*1)=some (.int .i64 l[i]):=ec U (by rw[List.getElem?_append_left (by simp;omega)];simp[cG]);simp only[eG,e]
theorem eW {h:Heap} {p:Option Addr} {n c:Nat} {l:List Int} {B:List Nat} (ho:dV h (.slice p n c) l B) (hl:l.length<=140737488351232) (hi:∀ t∈l,cL t):n=l.length/\cT h (.slice p l.length c) l:=by
 obtain⟨_,⟨he,hn,_⟩|⟨b,c',rest,t,he,hc,U,_,_⟩⟩:=ho
 ·simp only[Value.slice.injEq]at he;obtain⟨rfl,rfl,rfl⟩:=he;have:l=[]:=by simpa using hn
  subst this;exact⟨rfl,by simp,none,0,rfl,by simp,.inl rfl⟩
 ·simp only[Value.slice.injEq]at he;obtain⟨rfl,rfl,rfl⟩:=he;rw[dA]at U;refine⟨by simp,mN U hl (by simpa using hc) hi⟩
theorem hY (h:Heap) (p:Option Addr) (c:Nat):cT h (.slice p 0 c) []:=⟨by simp,p,c,rfl,by simp,.inl rfl⟩
theorem HF {el:TypeId} {h h1:Heap} {b:Nat} {t:TypeId} {l:List Int} {m:Nat} {K:Value->Heap->Prop} (hl:h.le h1) (hg:h1 b=some (.cells #[] t (0,0))) (U:h b=none) (hm:m=l.length) (hs:l.length<=1000000) (hi:∀ t∈l,cL t)
  (hk:∀ p' c' h2 B',h.le h2->dV h2 (.slice p' l.length c') l B'->cT h2 (.slice p' l.length c') l->(∀ b∈B',h b=none)->K (.slice p' l.length c') h2):App 8 1 [.int .i64 0] el h1 (some ⟨b,0,none⟩) 0 0 m (l.map (Value.int .i64)) K:=by
 refine Af hl hg U (dA l).symm (by rw[hm];simp) (by simpa using hs) ?_;intro p' c' h2 B' k1 k2 k3;have rM:(l.map bO).length=l.length:=by simp
 rw[rM]at k2 ⊢;exact hk p' c' h2 B' k1 k2 (eW k2 (by omega) hi).2 k3
theorem Du {h h':Heap} (hl:h.le h') {p:Option Addr} {n c:Nat} {l:List Int} {K:List Value->Prop} (hr:cT h (.slice p n c) l) (hk:K (l.map (Value.int .i64))):RK h' p (n*1) K:=qv (hr.le hl) hk
theorem tg {l:List Int} {h:Heap} {v:Value} (hr:cT h v l):∀ t∈l,cL t:=by
 obtain⟨_,p,c,rfl,_,h3⟩:=hr;rcases h3 with rfl|⟨b,off,_,hx⟩
 ·intro t ht;cases ht
 ·intro t ht;obtain⟨i,hi,rfl⟩:=List.mem_iff_getElem.1 ht;obtain⟨vs,_,_,h2⟩:=hx i l[i] (by simp[hi]);exact h2
theorem cT.at {h:Heap} {p:Option Addr} {n c:Nat} {l:List Int} (hr:cT h (.slice p n c) l) {i:Nat} (hi:i < l.length):∃ b off,p=some ⟨b,off,none⟩/\rd h b (off+i*1)=some (.int .i64 l[i]):=by
 obtain⟨b,off,vs,hq,e1,e2,_⟩:=hr.get hi;subst e2;exact⟨b,off,hq,by simpa using aK e1 (i:=0) rfl⟩
theorem cT.first {h:Heap} {p:Option Addr} {n c:Nat} {l:List Int} (hr:cT h (.slice p n c) l) {m:Nat} (hm:m<=l.length):cT h (.slice p m c) (l.take m):=by
 obtain⟨h1,p',c',he,h2,h3⟩:=hr;simp only[Value.slice.injEq]at he;obtain⟨rfl,rfl,rfl⟩:=he;have iS:(l.take m).length=m:=by simp;omega
 refine⟨by omega,p,c,by rw[iS],by omega,?_⟩;rcases h3 with rfl|⟨b,off,rfl,hx⟩
 ·exact .inl (by simp)
 ·refine .inr ⟨b,off,rfl,λi x hi=>hx i x ?_⟩;rw[List.getElem?_take]at hi;split at hi
  ·exact hi
  ·cases hi
def mO:dH:=⟨false,[],[]⟩
theorem jX (h:Heap):bI prog 73 [] h λv h'=>h.le h'/\∃ b1 b2,v=.agg #[.bool false,.slice (some ⟨b1,0,none⟩) 0 0,.slice (some ⟨b2,0,none⟩) 0 0]:=by
 refine bS au func73 F73 ZW rfl ?_;conv=>whnf
 refine dI [] rfl (λb1 h1 gI e1 l1 g1=>?_);conv=>whnf
 refine dI [] rfl (λb2 h2 eX e2 l2 g2=>?_);conv=>whnf
 exact⟨Heap.le_trans l1 l2,b1,b2,rfl⟩
structure sB (h h':Heap) (v1:Value) (l1:List Int) (B1:List Nat) (v2:Value) (l2:List Int) (B2:List Nat):Prop where
 le:h.le h'
 o1:dV h' v1 l1 B1
 o2:dV h' v2 l2 B2
 nd:Nd (B1++B2)
 fr:∀ b∈B1++B2,h b=none
theorem sB.start (h:Heap):sB h h (.slice none 0 0) [] [] (.slice none 0 0) [] []:=⟨Heap.le_refl h,⟨by simp,.inl ⟨rfl,rfl,rfl⟩⟩,⟨by simp,.inl ⟨rfl,rfl,rfl⟩⟩,λ_=>by simp,by simp⟩
theorem sB.swap {h h':Heap} {v1 v2:Value} {l1 l2:List Int} {B1 B2:List Nat} (s:sB h h' v1 l1 B1 v2 l2 B2):sB h h' v2 l2 B2 v1 l1 B1:=⟨s.le,s.o2,s.o1,s.nd.perm λa=>by simp only[List.count_append];omega,λb U=>s.fr b (by simp at U ⊢;grind)⟩
theorem sB.Ky {h h':Heap} {v2:Value} {l2:List Int} {B2:List Nat} {t:TypeId} {vs:List Value} {K:Nat->Heap->Prop} (s:sB h h' (.slice none 0 0) [] [] v2 l2 B2) (hv:vs=[]) (hk:∀ b h2,sB h h2 (.slice (some ⟨b,0,none⟩) 0 0) [] [b] v2 l2 B2->K b h2):Ig h' vs t K:=by
 subst hv;refine dI [] rfl (λb h2 U e l g=>hk b h2 ⟨Heap.le_trans s.le l,dP g,s.o2.aG (cC.of_le l _),?_,λx hx=>?_⟩)
 ·refine Nd.two (λa=>by simp only[List.count_cons,List.count_nil];split<;>omega) s.o2.nd (λx hx hm=>?_);rw[List.mem_singleton.1 hm]at hx;obtain⟨o,ho⟩:=s.o2.in b hx;rw[U]at ho;cases ho
 ·rcases List.mem_append.1 hx with hx|hx
  ·rw[List.mem_singleton.1 hx];exact fu s.le U
  ·exact s.fr x (by simp[hx])
theorem sB.aaY {h h':Heap} {v1:Value} {l1:List Int} {B1:List Nat} {t:TypeId} {vs:List Value} {K:Nat->Heap->Prop} (s:sB h h' v1 l1 B1 (.slice none 0 0) [] []) (hv:vs=[]) (hk:∀ b h2,sB h h2 v1 l1 B1 (.slice (some ⟨b,0,none⟩) 0 0) [] [b]->K b h2):Ig h' vs t K :=
 s.swap.Ky hv (λb h2 s2=>hk b h2 s2.swap)
theorem sB.Dv {h h':Heap} {p:Option Addr} {c m:Nat} {l l2:List Int} {B1 B2:List Nat} {v2:Value} {el:TypeId} {K:Value->Heap->Prop} (s:sB h h' (.slice p 0 c) [] B1 v2 l2 B2) (hm:m=l.length) (hs:l.length<=1000000)
  (hk:∀ p' c' h2 B',sB h h2 (.slice p' l.length c') l B' v2 l2 B2->K (.slice p' l.length c') h2):App 8 1 [.int .i64 0] el h' p 0 c m (l.map (Value.int .i64)) K:=by
 refine cY (h0:=h) (xs:=[]) (ys:=l.map bO) (B:=B1) s.o1 (λb U=>s.fr b (by simp[U])) s.le (dA l).symm (by rw[hm];simp) (λy hy=>by obtain⟨w,_,rfl⟩:=List.mem_map.1 hy;rfl) (dw l) rfl (by simp at hs ⊢;omega) (by simp at hs ⊢;omega) ?_;intro v' h2 B' k1 k2 k3 k4 k5;rw[List.nil_append]at k2;obtain⟨p',c',rfl,_⟩:=cn.form k2;have rM:(l.map bO).length=l.length:=by simp
 rw[rM]at k2 ⊢;have hd:∀ b∈B2,b ∉ B1:=λb U hx=>by
  have:=s.nd b;have:=List.count_pos_iff.2 U;have:=List.count_pos_iff.2 hx;simp only[List.count_append]at *;omega
 refine hk p' c' h2 B' ⟨k1,k2,s.o2.aG λb U o ho=>by rw[k4 b (hd b U) (by rw[ho];simp)];exact ho,Nd.two k2.nd s.o2.nd (λb U hx=>?_),λb U=>?_⟩
 ·rcases k5 b hx with hy|hy
  ·exact hd b U hy
  ·obtain⟨o,ho⟩:=s.o2.in b U;rw[hy]at ho;cases ho
 ·rcases List.mem_append.1 U with U|U
  ·exact k3 b U
  ·exact s.fr b (by simp[U])
theorem sB.Ff {h h':Heap} {p:Option Addr} {c m:Nat} {l l1:List Int} {B1 B2:List Nat} {v1:Value} {el:TypeId} {K:Value->Heap->Prop} (s:sB h h' v1 l1 B1 (.slice p 0 c) [] B2) (hm:m=l.length) (hs:l.length<=1000000)
  (hk:∀ p' c' h2 B',sB h h2 v1 l1 B1 (.slice p' l.length c') l B'->K (.slice p' l.length c') h2):App 8 1 [.int .i64 0] el h' p 0 c m (l.map (Value.int .i64)) K :=
 s.swap.Dv hm hs (λp' c' h2 B' s2=>hk p' c' h2 B' s2.swap)
theorem vS (told:Bool) (lp kp:Option Addr) (lc kc:Nat) (ll kl:List Int) (h:Heap) (h1:cT h (.slice lp ll.length lc) ll) (h2:cT h (.slice kp kl.length kc) kl) (b1:ll.length<=1000000) (b2:kl.length<=1000000) :
  bI prog 160 [.agg #[.bool told,.slice lp ll.length lc,.slice kp kl.length kc]] h λv h'=>∃ p1 c1 p2 c2 B1 B2,v=.agg #[.bool told,.slice p1 ll.length c1,.slice p2 kl.length c2]/\sB h h' (.slice p1 ll.length c1) ll B1 (.slice p2 kl.length c2) kl B2:=by
 have s:=sB.start h;refine bS au func160 TS TT rfl ?_;conv=>whnf
 repeat' ((first|exact trivial|exact⟨_,_,_,_,_,_,rfl,s⟩|exact⟨_,_,_,_,_,_,rfl,s.swap⟩|apply And.intro|refine Du s.le h1 ?_|refine Du s.le h2 ?_|refine s.Dv (l:=ll) rfl b1 (λp' c' h9 B' s=>?_)|refine s.Ff (l:=ll) rfl b1 (λp' c' h9 B' s=>?_)|refine s.Dv (l:=kl) rfl b2 (λp' c' h9 B' s=>?_)|refine s.Ff (l:=kl) rfl b2 (λp' c' h9 B' s=>?_)|refine s.Ky rfl (λb h9 s=>?_)|refine s.aaY rfl (λb h9 s=>?_))<;>conv=>whnf)
def iF (cs:List dR):List Int->List Int->Bool
 | a::l,b::r=>ju cs a b&&iF cs l r
 | _,_=>true
def uF (cs:List dR) (cA types:List Int):Bool:=decide (types.length<=cA.length)&&iF cs (cA.drop (cA.length-types.length)) types
def gM (cs:List dR) (s:dH) (types:List Int):Option dH:=if uF cs s.stack types=true then some {s with stack:=s.stack.take (s.stack.length-types.length)}else none
def iG (r:Option dH) (t:Int):Option dH:=match r with
 | none=>none
 | some s=>if t=0\/4<=s.stack.length then none else some {s with stack:=s.stack++[t]}
def uG (h:Heap) (v:Value) (r:Option dH):Prop:=match r with
 | none=>∃ a p1 n1 c1 p2 n2 c2,v=.tuple #[.agg #[.bool a,.slice p1 n1 c1,.slice p2 n2 c2],.bool false]
 | some s=>∃ p1 c1 p2 c2,v=.tuple #[.agg #[.bool s.told,.slice p1 s.locals.length c1,.slice p2 s.stack.length c2],.bool true]/\cT h (.slice p1 s.locals.length c1) s.locals/\cT h (.slice p2 s.stack.length c2) s.stack
theorem th {cs:List dR} {l r:List Int} {i:Nat} (hl:i < l.length) (hr:i < r.length):iF cs (l.drop i) (r.drop i)=(ju cs l[i] r[i]&&iF cs (l.drop (i+1)) (r.drop (i+1))):=by
 rw[List.drop_eq_getElem_cons hl,List.drop_eq_getElem_cons hr,iF]
theorem Dw (p:Option Addr) (n c:Nat) (cs:List dR) (s:dH) (lp kp tp:Option Addr) (lc kc tc:Nat) (types:List Int) (h:Heap) (hcs:fo h (.slice p n c) cs) (ok:cj cs) (h1:cT h (.slice lp s.locals.length lc) s.locals) (h2:cT h (.slice kp s.stack.length kc) s.stack) (ht:cT h (.slice tp types.length tc) types)
  (hv:∀ t∈s.stack,t < 8+cs.length) (hw:∀ t∈types,t < 8+cs.length) :
  bI prog 186 [.slice p n c,.agg #[.bool s.told,.slice lp s.locals.length lc,.slice kp s.stack.length kc],.slice tp types.length tc] h λv h'=>h'=h/\uG h v (gM cs s types):=by
 obtain⟨told,ll,cA⟩:=s;simp only at h1 h2 hv ⊢;have l1:=h1.1;have l2:=h2.1;have l3:=ht.1;have gG:cA.length<=kc:=by
  obtain⟨_,_,he,gG,_⟩:=h2.len;simp only[Value.slice.injEq,true_and]at he;obtain⟨_,rfl⟩:=he;exact gG
 have e:gM cs ⟨told,ll,cA⟩ types=if uF cs cA types=true then some ⟨told,ll,cA.take (cA.length-types.length)⟩else none:=rfl
 rw[e];have no:uF cs cA types=false->uG h (.tuple #[.agg #[.bool told,.slice lp ll.length lc,.slice kp cA.length kc],.bool false]) (if uF cs cA types=true then some ⟨told,ll,cA.take (cA.length-types.length)⟩else none):=λhx=>by
  rw[if_neg (by rw[hx];simp)];exact⟨told,_,_,_,_,_,_,rfl⟩
 refine bS au func186 Uu Uv rfl ?_;conv=>whnf
 refine aj ?_;conv=>whnf
 apply ax<;>intro g;all_goals conv=>whnf
 ·exact⟨rfl,no (by simp[uF];omega)⟩
 obtain⟨m,hm⟩:∃ m:Nat,m=cA.length-types.length:=⟨_,rfl⟩
 have hmi:(cA.length:Int)-types.length=m:=by omega
 rw[<-hm];rw[hmi];rw[<-hm]at no;have hpo:uF cs cA types=iF cs ((cA.drop m).drop 0) (types.drop 0):=by
  unfold uF;rw[<-hm];simp;omega
 refine fm [0,2,4,6,8,9] [4,6] (λi:Nat=>i<=types.length/\uF cs cA types=iF cs ((cA.drop m).drop i) (types.drop i)) (λi=>types.length-i)
  (λi=>([.v (.slice p n c),.v (.slice tp types.length tc),.l 4 0,.l 6 0,.v (.int .i64 m),.v (.int .i64 i)],[some [.bool told,.slice lp ll.length lc,.slice kp cA.length kc],some [.bool false,.slice none 0 0,.slice none 0 0]],h)) 0 ⟨by omega,hpo⟩ rfl ?_
 rintro i ⟨hi,hg⟩;conv=>whnf
 apply ax<;>intro g2;all_goals conv=>whnf
 ·have cG:i < types.length:=by omega
  have DW:m+i < cA.length:=by omega
  have f1:=h2.at DW;have f2:=ht.at cG;obtain⟨b1,o1,q1,a1⟩:=f1;obtain⟨b2,o2,q2,a2⟩:=f2;have R3:((m:Int)+i).toNat=m+i:=by omega
  have a1':rd h b1 (o1+((m:Int)+i).toNat*1)=some (.int .i64 cA[m+i]):=by rw[R3];exact a1
  have hl2:=vG p n c cs cA[m+i] types[i] h hcs ok (hv _ (List.getElem_mem DW)) (hw _ (List.getElem_mem cG));have dZ:=th (cs:=cs) (l:=cA.drop m) (r:=types) (i:=i) (by simp;omega) cG;have FO:(cA.drop m)[i]'(by simp;omega)=cA[m+i]:=by simp
  rw[FO]at dZ;rw[dZ]at hg;repeat' ((first|refine aj ?_|refine aq ?_|refine aO q1 ?_|refine aO q2 ?_|refine ld a1' ?_|refine ld a2 ?_|refine aT hl2 ?_)<;>conv=>whnf)
  apply bY<;>intro g3;all_goals conv=>whnf
  ·exact⟨rfl,no (by rw[hg,g3];rfl)⟩
  ·refine aj ?_;conv=>whnf
   refine dm (i+1) ⟨by omega,?_⟩ (by omega) rfl;rw[hg,g3];rfl
 ·have nV:i=types.length:=by omega
  subst nV;have aaZ:uF cs cA types=true:=by rw[hg,List.drop_length];unfold iF;split<;>simp_all
  refine aq ?_;conv=>whnf
  rw[if_pos aaZ];have iS:(cA.take m).length=m:=by simp;omega
  refine⟨rfl,lp,lc,kp,kc,?_,h1,?_⟩
  ·show _=Value.tuple #[.agg #[.bool told,.slice lp ll.length lc,.slice kp (cA.take m).length kc],.bool true];rw[iS];rfl
  ·show cT h (.slice kp (cA.take m).length kc) (cA.take m);rw[iS];exact h2.first (by omega)
theorem Al (a:Bool) (p1 p2:Option Addr) (n1 c1 n2 c2:Nat) (b:Bool) (r:Option dH) (t:Int) (h:Heap) (hr:uG h (.tuple #[.agg #[.bool a,.slice p1 n1 c1,.slice p2 n2 c2],.bool b]) r) (ht:cL t) (hs:∀ s,r=some s->s.stack.length<=1000) :
  bI prog 212 [.agg #[.bool a,.slice p1 n1 c1,.slice p2 n2 c2],.int .i64 t,.bool b] h λv h'=>h.le h'/\uG h' v (iG r t):=by
 cases r with
 | none =>
  obtain⟨_,_,_,_,_,_,_,e⟩:=hr;simp only[Value.tuple.injEq,Array.mk.injEq,List.cons.injEq,Value.agg.injEq,Value.bool.injEq,Value.slice.injEq,and_true]at e;obtain⟨_,rfl⟩:=e;refine bS au func212 PU Oe rfl ?_;conv=>whnf
  exact⟨Heap.le_refl h,_,_,_,_,_,_,_,rfl⟩
 | some s =>
  obtain⟨q1,d1,q2,d2,e,h1,h2⟩:=hr;simp only[Value.tuple.injEq,Array.mk.injEq,List.cons.injEq,Value.agg.injEq,Value.bool.injEq,Value.slice.injEq,and_true]at e;obtain⟨⟨rfl,⟨rfl,rfl,rfl⟩,⟨rfl,rfl,rfl⟩⟩,rfl⟩:=e;have jW:=hs s rfl;have i2:=tg h2;have e:iG (some s) t=if t=0\/4<=s.stack.length then none else some {s with stack:=s.stack++[t]}:=rfl
  rw[e];refine bS au func212 PU Oe rfl ?_;conv=>whnf
  apply ax<;>intro g;all_goals conv=>whnf
  ·rw[if_pos (.inl g)];exact⟨Heap.le_refl h,_,_,_,_,_,_,_,rfl⟩
  apply ax<;>intro g2;all_goals conv=>whnf
  ·rw[if_pos (.inr (by omega))];exact⟨Heap.le_refl h,_,_,_,_,_,_,_,rfl⟩
  ·rw[if_neg (by omega)];refine dI [] rfl (λb3 h3 rU e3 l3 g3=>?_);conv=>whnf
   refine Du l3 h2 ?_;conv=>whnf
   refine HF l3 g3 rU rfl (by omega) i2 (λp4 c4 h4 B4 l4 o4 r4 n4=>?_);conv=>whnf
   have Yl:(s.stack.map bO).length=s.stack.length:=by simp
   refine cY (h0:=h) (xs:=s.stack.map bO) (ys:=[bO t]) (B:=B4) o4 n4 l4 rfl rfl (by simp[bO]) rfl rfl (by simp;omega) (by simp;omega) ?_;intro v' h5 B5 k1 k2 k3 k4 k5;have zn:dV h5 v' (s.stack++[t]) B5:=by unfold dV;rw[List.map_append];exact k2
   have hf:=zn.form;obtain⟨p6,c6,rfl,_⟩:=hf;have hi:∀ x∈s.stack++[t],cL x:=λx hx=>by
    simp only[List.mem_append,List.mem_singleton]at hx;rcases hx with hx|rfl
    ·exact i2 x hx
    ·exact ht
   have WY:((s.stack++[t]).map bO).length=(s.stack++[t]).length:=by simp
   have r6:=(eW zn (by simp;omega) hi).2;rw[WY];conv=>whnf
   exact⟨k1,_,_,_,_,rfl,h1.le k1,r6⟩
theorem HG (k:Int) (h:Heap):Pure prog 213 [.int .i64 k] h (.tuple #[.int .i64 (if k=0 then 3 else 4),.int .i64 (if k=0 then 1 else 8)]):=by
 refine gN au func213 Ve Vf rfl ?_;conv=>whnf
 apply ax<;>intro g;all_goals conv=>whnf
 ·rw[if_pos g,if_pos g];exact⟨rfl,rfl⟩
 ·rw[if_neg g,if_neg g];exact⟨rfl,rfl⟩
def pG (cs:List dR) (i:dX) (s:dH):Option dH :=
 if i.kind=1 then iG (some s) 1
 else if i.kind=2 then iG (some s) 2
 else if i.kind=3 then iG (some s) (s.locals.getD i.a.toNat 0)
 else if i.kind=4 then (match s.stack.getLast? with
  | none=>none
  | some t=>some {s with locals:=s.locals.set i.a.toNat t,stack:=s.stack.dropLast})
 else if i.kind=5 then gM cs s [0]
 else if i.kind=6 then (match s.stack.getLast? with
  | none=>none
  | some t=>iG (some s) t)
 else if i.kind=7 then iG (gM cs s [1,1]) 1
 else if i.kind=8\/i.kind=9 then gM cs s [1,1]
 else if i.kind=10 then gM cs s [8]
 else if i.kind=24 then gM cs s [1]
 else if i.kind=23 then gM cs s [9]
 else some s
theorem uG.form {h:Heap} {v:Value} {r:Option dH} (hr:uG h v r):∃ a p1 n1 c1 p2 n2 c2 b,v=.tuple #[.agg #[.bool a,.slice p1 n1 c1,.slice p2 n2 c2],.bool b]:=by
 cases r with
 | none=>obtain⟨a,p1,n1,c1,p2,n2,c2,e⟩:=hr;exact⟨a,p1,n1,c1,p2,n2,c2,false,e⟩
 | some s=>obtain⟨p1,c1,p2,c2,e,_⟩:=hr;exact⟨_,_,_,_,_,_,_,_,e⟩
theorem Kz {K:Value->Heap->Prop} {E:List PanicEntry->Heap->Prop} {p:Option Addr} {n c:Nat} {cs:List dR} {s:dH} {lp kp tp:Option Addr} {lc kc tc nt:Nat} {types:List Int} {h:Heap} (hcs:fo h (.slice p n c) cs) (ok:cj cs) (h1:cT h (.slice lp s.locals.length lc) s.locals) (h2:cT h (.slice kp s.stack.length kc) s.stack) (hn:nt=types.length) (ht:cT h (.slice tp types.length tc) types)
  (hv:∀ t∈s.stack,t < 8+cs.length) (hw:∀ t∈types,t < 8+cs.length) (hK:∀ a p1 n1 c1 p2 n2 c2 b,uG h (.tuple #[.agg #[.bool a,.slice p1 n1 c1,.slice p2 n2 c2],.bool b]) (gM cs s types)->K (.tuple #[.agg #[.bool a,.slice p1 n1 c1,.slice p2 n2 c2],.bool b]) h) :
  Vc.Call prog 186 [.slice p n c,.agg #[.bool s.told,.slice lp s.locals.length lc,.slice kp s.stack.length kc],.slice tp nt tc] h K E:=by
 subst hn;refine aD (Dw p n c cs s lp kp tp lc kc tc types h hcs ok h1 h2 ht hv hw) (λv h' hh=>?_);obtain⟨rfl,hs⟩:=hh;obtain⟨a,p1,n1,c1,p2,n2,c2,b,rfl⟩:=hs.form;exact hK a p1 n1 c1 p2 n2 c2 b hs
theorem pH {K:Value->Heap->Prop} {E:List PanicEntry->Heap->Prop} {a:Bool} {p1 p2:Option Addr} {n1 c1 n2 c2:Nat} {b:Bool} {r:Option dH} {t:Int} {h:Heap} (hr:uG h (.tuple #[.agg #[.bool a,.slice p1 n1 c1,.slice p2 n2 c2],.bool b]) r) (ht:cL t) (hs:∀ s,r=some s->s.stack.length<=1000)
  (hK:∀ h' a p1 n1 c1 p2 n2 c2 b,h.le h'->uG h' (.tuple #[.agg #[.bool a,.slice p1 n1 c1,.slice p2 n2 c2],.bool b]) (iG r t)->K (.tuple #[.agg #[.bool a,.slice p1 n1 c1,.slice p2 n2 c2],.bool b]) h') :
  Vc.Call prog 212 [.agg #[.bool a,.slice p1 n1 c1,.slice p2 n2 c2],.int .i64 t,.bool b] h K E:=by
 refine aD (Al a p1 p2 n1 c1 n2 c2 b r t h hr ht hs) (λv h' hh=>?_);obtain⟨hl,hs⟩:=hh;obtain⟨a,p1,n1,c1,p2,n2,c2,b,rfl⟩:=hs.form;exact hK h' a p1 n1 c1 p2 n2 c2 b hl hs
theorem Fg {K:Value->Heap->Prop} {E:List PanicEntry->Heap->Prop} {p:Option Addr} {n c:Nat} {cs:List dR} {s:dH} {lp kp tp:Option Addr} {lc kc tc nt:Nat} {types:List Int} {h:Heap} (hcs:fo h (.slice p n c) cs) (ok:cj cs) (h1:cT h (.slice lp s.locals.length lc) s.locals) (h2:cT h (.slice kp s.stack.length kc) s.stack) (hn:nt=types.length) (ht:cT h (.slice tp types.length tc) types)
  (hv:∀ t∈s.stack,t < 8+cs.length) (hw:∀ t∈types,t < 8+cs.length) (hK:∀ a p1 n1 c1 p2 n2 c2 b,uG h (.tuple #[.agg #[.bool a,.slice p1 n1 c1,.slice p2 n2 c2],.bool b]) (gM cs s types)->K (.tuple #[.agg #[.bool a,.slice p1 n1 c1,.slice p2 n2 c2],.bool b]) h) :
  jA prog 186 [.slice p n c,.agg #[.bool s.told,.slice lp s.locals.length lc,.slice kp s.stack.length kc],.slice tp nt tc] h K E:=by
 subst hn;refine cE (Dw p n c cs s lp kp tp lc kc tc types h hcs ok h1 h2 ht hv hw) (λv h' hh=>?_);obtain⟨rfl,hs⟩:=hh;obtain⟨a,p1,n1,c1,p2,n2,c2,b,rfl⟩:=hs.form;exact⟨Heap.le_refl _,hK a p1 n1 c1 p2 n2 c2 b hs⟩
theorem uH {K:Value->Heap->Prop} {E:List PanicEntry->Heap->Prop} {a:Bool} {p1 p2:Option Addr} {n1 c1 n2 c2:Nat} {b:Bool} {r:Option dH} {t:Int} {h:Heap} (hr:uG h (.tuple #[.agg #[.bool a,.slice p1 n1 c1,.slice p2 n2 c2],.bool b]) r) (ht:cL t) (hs:∀ s,r=some s->s.stack.length<=1000)
  (hK:∀ h' a p1 n1 c1 p2 n2 c2 b,h.le h'->uG h' (.tuple #[.agg #[.bool a,.slice p1 n1 c1,.slice p2 n2 c2],.bool b]) (iG r t)->K (.tuple #[.agg #[.bool a,.slice p1 n1 c1,.slice p2 n2 c2],.bool b]) h') :
  jA prog 212 [.agg #[.bool a,.slice p1 n1 c1,.slice p2 n2 c2],.int .i64 t,.bool b] h K E:=by
 refine cE (Al a p1 p2 n1 c1 n2 c2 b r t h hr ht hs) (λv h' hh=>?_);obtain⟨hl,hs⟩:=hh;obtain⟨a,p1,n1,c1,p2,n2,c2,b,rfl⟩:=hs.form;exact⟨hl,hK h' a p1 n1 c1 p2 n2 c2 b hl hs⟩
theorem KA {cs:List dR} {s r:dH} {types:List Int} (h:gM cs s types=some r):r.stack.length<=s.stack.length/\r.locals=s.locals/\r.told=s.told:=by
 unfold gM at h;split at h
 ·simp only[Option.some.injEq]at h;subst h;simp<;>omega
 ·cases h
def si (h:Heap) (s:dH) (lp kp:Option Addr) (lc kc:Nat):Prop:=cT h (.slice lp s.locals.length lc) s.locals/\cT h (.slice kp s.stack.length kc) s.stack
theorem si.le {h h':Heap} {s:dH} {lp kp:Option Addr} {lc kc:Nat} (hl:h.le h') (hi:si h s lp kp lc kc):si h' s lp kp lc kc:=⟨hi.1.le hl,hi.2.le hl⟩
theorem si.out {h:Heap} {s:dH} {lp kp:Option Addr} {lc kc:Nat} (hi:si h s lp kp lc kc):uG h (.tuple #[.agg #[.bool s.told,.slice lp s.locals.length lc,.slice kp s.stack.length kc],.bool true]) (some s):=⟨lp,lc,kp,kc,rfl,hi.1,hi.2⟩
theorem uI {h:Heap} {b:Nat} {types:List Int} {t:TypeId} (hg:h b=some (.cells (types.map (Value.int .i64)).toArray t (0,0))) (hl:types.length<=1000) (hi:∀ x∈types,0<=x/\x<=1000):cT h (.slice (some ⟨b,0,none⟩) types.length types.length) types :=
 mN (rest:=[]) (by rw[List.append_nil];exact hg) (by omega) (Nat.le_refl _) (λx hx=>by have:=hi x hx;unfold cL;omega)
theorem iA {cs:List dR} {s:dH} {types:List Int} (hs:s.stack.length<=1000):∀ r,gM cs s types=some r->r.stack.length<=1000:=λr hr=>by have:=KA hr;omega
theorem Fh (p:Option Addr) (n c:Nat) (cs:List dR) (kind a b:Int) (s:dH) (lp kp:Option Addr) (lc kc:Nat) (B1 B2:List Nat) (h0 h:Heap) (hcs:fo h (.slice p n c) cs) (ok:cj cs) (dZ:sB h0 h (.slice lp s.locals.length lc) s.locals B1 (.slice kp s.stack.length kc) s.stack B2) (hI:si h s lp kp lc kc)
  (hv:∀ t∈s.stack,t < 8+cs.length) (nr:kind=3\/kind=4->0<=a/\a < s.locals.length) (jN:s.locals.length<=1000) (hl2:s.stack.length<=1000) :
  bI prog 189 [.slice p n c,.agg #[.int .i64 kind,.int .i64 a,.int .i64 b],.agg #[.bool s.told,.slice lp s.locals.length lc,.slice kp s.stack.length kc]] h λv h'=>h0.le h'/\uG h' v (pG cs ⟨kind,a,b⟩ s):=by
 have hle:=dZ.le;have LD:=ok.1;have i2:=tg hI.2;have i1:=tg hI.1;have gG:s.stack.length<=kc:=by
  obtain⟨_,_,he,gG,_⟩:=hI.2.len;simp only[Value.slice.injEq,true_and]at he;obtain⟨_,rfl⟩:=he;exact gG
 have tn:∀(types:List Int),types.length<=1000->(∀ x∈types,0<=x/\x < 10)->∀(h1:Heap) (bt:Nat) (ty:TypeId) (K:Value->Heap->Prop) (E:List PanicEntry->Heap->Prop) (nt:Nat),h.le h1->h1 bt=some (.cells (types.map (Value.int .i64)).toArray ty (0,0))->nt=types.length ->
   (∀ a p1 n1 c1 p2 n2 c2 b,uG h1 (.tuple #[.agg #[.bool a,.slice p1 n1 c1,.slice p2 n2 c2],.bool b]) (gM cs s types)->K (.tuple #[.agg #[.bool a,.slice p1 n1 c1,.slice p2 n2 c2],.bool b]) h1) ->
   Vc.Call prog 186 [.slice p n c,.agg #[.bool s.told,.slice lp s.locals.length lc,.slice kp s.stack.length kc],.slice (some ⟨bt,0,none⟩) nt nt] h1 K E:=by
  intro types hl hx h1 bt ty K E nt l1 g1 hn hK;subst hn;exact Kz (hcs.le l1 (λ_ _ hx=>hx.le l1)) ok (hI.1.le l1) (hI.2.le l1) rfl (uI g1 hl (λx xY=>by have:=hx x xY;omega)) hv (λx xY=>by have:=hx x xY;omega) hK
 refine bS au func189 Uy Uz rfl ?_;conv=>whnf
 by_cases k1:kind=1
 ·subst k1;conv=>whnf
  refine pH hI.out (by unfold cL;omega) (λr hr=>by simp only[Option.some.injEq]at hr;subst hr;exact hl2) (λh1 a p1 n1 c1 p2 n2 c2 b l1 hs=>?_);conv=>whnf
  exact⟨Heap.le_trans hle l1,hs⟩
 refine cy k1 ?_;conv=>whnf
 by_cases k2:kind=2
 ·subst k2;conv=>whnf
  refine pH hI.out (by unfold cL;omega) (λr hr=>by simp only[Option.some.injEq]at hr;subst hr;exact hl2) (λh1 a p1 n1 c1 p2 n2 c2 b l1 hs=>?_);conv=>whnf
  exact⟨Heap.le_trans hle l1,hs⟩
 refine cy k2 ?_;conv=>whnf
 by_cases k3:kind=3
 ·subst k3;have ha:=nr (.inl rfl);have cG:a.toNat < s.locals.length:=by omega
  have f1:=hI.1.at cG;obtain⟨b1,o1,q1,a1⟩:=f1;have QX:s.locals.getD a.toNat 0=s.locals[a.toNat]:=by simp[cG]
  have Ij:=i1 _ (List.getElem_mem cG);rw[<-QX]at a1 Ij;conv=>whnf
  repeat' ((first|exact trivial|apply And.intro|refine aq ?_|refine aO q1 ?_|refine ld a1 ?_|refine uH hI.out Ij (λr hr=>by simp only[Option.some.injEq]at hr;subst hr;exact hl2) (λh1 a p1 n1 c1 p2 n2 c2 b l1 hs=>?_))<;>conv=>whnf)
  all_goals first|exact Heap.le_trans hle l1|exact hs
 refine cy k3 ?_;conv=>whnf
 by_cases k4:kind=4
 ·subst k4;have e4:pG cs ⟨4,a,b⟩ s=(match s.stack.getLast? with
   | none=>none
   | some t=>some {s with locals:=s.locals.set a.toNat t,stack:=s.stack.dropLast}):=rfl
  rw[e4];have ha:=nr (.inr rfl);conv=>whnf
  rcases List.eq_nil_or_concat s.stack with hn|⟨l,t,hn⟩
  ·refine fX (by rw[hn];rfl) ?_;conv=>whnf
   refine⟨hle,?_⟩;rw[hn];exact⟨_,_,_,_,_,_,_,rfl⟩
  ·rw[List.concat_eq_append]at hn;have BZ:s.stack.length=l.length+1:=by rw[hn];simp
   have OT:l.length < s.stack.length:=by omega
   have f2:=hI.2.at OT;obtain⟨b2,o2,q2,a2⟩:=f2;have FO:s.stack[l.length]=t:=by simp[hn]
   rw[FO]at a2;have R3:((s.stack.length:Int)-1).toNat=l.length:=by omega
   have a2':rd h b2 (o2+((s.stack.length:Int)-1).toNat*1)=some (.int .i64 t):=by rw[R3];exact a2
   have cG:a.toNat < s.locals.length:=by omega
   have sO:s.locals=s.locals.take a.toNat++s.locals[a.toNat]::s.locals.drop (a.toNat+1):=by simp
   have Q4:cn 1 h (.slice lp s.locals.length lc) ((s.locals.take a.toNat).map bO++bO s.locals[a.toNat]::(s.locals.drop (a.toNat+1)).map bO) B1:=by
    have:=dZ.o1;unfold dV at this;rw[show s.locals.map bO=(s.locals.take a.toNat).map bO++bO s.locals[a.toNat]::(s.locals.drop (a.toNat+1)).map bO by rw[<-List.map_cons,<-List.map_append,<-sO]]at this;exact this
   obtain⟨bl,cl,pre,post,tl,hq,uo,fV,_,hB,eF⟩:=Q4.at;simp only[Value.slice.injEq]at hq;obtain⟨rfl,_,rfl⟩:=hq;have kB:pre.length=a.toNat:=by rw[fV];simp;omega
   have hdn:bl ∉ B2:=λhx=>by
    have:=dZ.nd bl;have:=List.count_pos_iff.2 hx;simp only[hB,List.count_append,List.count_cons,List.count_nil,beq_self_eq_true,if_true]at *;omega
   have M0:(s.stack.getLast? : Option Int)=some t:=by rw[hn];simp
   have hdl:s.stack.dropLast=l:=by rw[hn];simp
   refine bL ?_;conv=>whnf
   repeat' ((first|exact trivial|apply And.intro|refine aj ?_|refine aq ?_|refine aO q2 ?_|refine ptr ?_|refine ld a2' ?_)<;>conv=>whnf)
   all_goals
    refine z7 uo (pre++bO t++post) (by simp[kB,bO]<;>omega) (mg (x':=bO t) (by show 0+a.toNat*1=pre.length;omega) rfl) (λh5 e5 g5=>?_);conv=>whnf
    refine aj ?_;conv=>whnf
    refine aq ?_;conv=>whnf
    have LH:h0.le h5:=by
     rw[e5];exact Heap.aM hle (dZ.fr bl (by rw[hB];simp))
    have o5:dV h5 (.slice (some ⟨bl,0,none⟩) s.locals.length lc) (s.locals.set a.toNat t) B1:=by
     have:=eF h5 (bO t) g5 rfl;unfold dV;rw[show(s.locals.set a.toNat t).map bO=(s.locals.take a.toNat).map bO++bO t::(s.locals.drop (a.toNat+1)).map bO by rw[List.set_eq_take_append_cons_drop,if_pos cG,List.map_append,List.map_cons]];exact this
    have cO:cL t:=i2 t (by rw[hn];simp);have r5:=(eW o5 (by simp;omega) (λx hx=>by
     rcases List.mem_or_eq_of_mem_set hx with hx|rfl
     ·exact i1 x hx
     ·exact cO)).2
    have o6:dV h5 (.slice kp s.stack.length kc) s.stack B2:=dZ.o2.aG λb U o ho=>by
     have:b≠bl:=by rintro rfl;exact hdn U
     rw[e5];simp only[Heap.set,this,if_false];exact ho
    have r6:=(eW o6 (by omega) i2).2.first (m:=l.length) (by omega);have tC:s.stack.take l.length=l:=by rw[hn];simp
    rw[tC]at r6;refine⟨LH,?_⟩;rw[M0,hdl];have Im:(s.locals.set a.toNat t).length=s.locals.length:=by simp
    refine⟨some ⟨bl,0,none⟩,lc,kp,kc,?_,r5,r6⟩;rw[Im,R3]
 refine cy k4 ?_;conv=>whnf
 by_cases k5:kind=5
 ·subst k5;conv=>whnf
  refine dI [.int .i64 0] rfl (λb1 h1 gI e1 l1 g1=>?_);conv=>whnf
  refine tn [0] (by simp) (by simp) h1 b1 _ _ _ 1 l1 g1 rfl (λa p1 n1 c1 p2 n2 c2 b hs=>?_);conv=>whnf
  exact⟨Heap.le_trans hle l1,hs⟩
 refine cy k5 ?_;conv=>whnf
 by_cases k6:kind=6
 ·subst k6;have e4:pG cs ⟨6,a,b⟩ s=(match s.stack.getLast? with
   | none=>none
   | some t=>iG (some s) t):=rfl
  rw[e4];conv=>whnf
  rcases List.eq_nil_or_concat s.stack with hn|⟨l,t,hn⟩
  ·refine fX (by rw[hn];rfl) ?_;conv=>whnf
   refine⟨hle,?_⟩;rw[hn];exact⟨_,_,_,_,_,_,_,rfl⟩
  ·rw[List.concat_eq_append]at hn;have BZ:s.stack.length=l.length+1:=by rw[hn];simp
   have OT:l.length < s.stack.length:=by omega
   have f2:=hI.2.at OT;obtain⟨b2,o2,q2,a2⟩:=f2;have FO:s.stack[l.length]=t:=by simp[hn]
   rw[FO]at a2;have R3:((s.stack.length:Int)-1).toNat=l.length:=by omega
   have a2':rd h b2 (o2+((s.stack.length:Int)-1).toNat*1)=some (.int .i64 t):=by rw[R3];exact a2
   have M0:(s.stack.getLast? : Option Int)=some t:=by rw[hn];simp
   have cO:cL t:=i2 t (by rw[hn];simp);rw[M0];refine bL ?_;conv=>whnf
   repeat' ((first|exact trivial|apply And.intro|refine aj ?_|refine aq ?_|refine aO q2 ?_|refine ld a2' ?_|refine uH hI.out cO (λr hr=>by simp only[Option.some.injEq]at hr;subst hr;exact hl2) (λh1 a p1 n1 c1 p2 n2 c2 b l1 hs=>?_))<;>conv=>whnf)
   all_goals first|exact Heap.le_trans hle l1|exact hs
 refine cy k6 ?_;conv=>whnf
 by_cases k7:kind=7
 ·subst k7;conv=>whnf
  refine dI [.int .i64 1,.int .i64 1] rfl (λb1 h1 gI e1 l1 g1=>?_);conv=>whnf
  refine tn [1,1] (by simp) (by simp) h1 b1 _ _ _ 2 l1 g1 rfl (λa p1 n1 c1 p2 n2 c2 b hs=>?_);conv=>whnf
  refine pH hs (by unfold cL;omega) (iA hl2) (λh2 a p1 n1 c1 p2 n2 c2 b l2 hs=>?_);conv=>whnf
  exact⟨Heap.le_trans hle (Heap.le_trans l1 l2),hs⟩
 refine cy k7 ?_;conv=>whnf
 by_cases k8:kind=8
 ·subst k8;conv=>whnf
  refine dI [.int .i64 1,.int .i64 1] rfl (λb1 h1 gI e1 l1 g1=>?_);conv=>whnf
  refine tn [1,1] (by simp) (by simp) h1 b1 _ _ _ 2 l1 g1 rfl (λa p1 n1 c1 p2 n2 c2 b hs=>?_);conv=>whnf
  exact⟨Heap.le_trans hle l1,hs⟩
 refine cy k8 ?_;conv=>whnf
 by_cases k9:kind=9
 ·subst k9;conv=>whnf
  refine dI [.int .i64 1,.int .i64 1] rfl (λb1 h1 gI e1 l1 g1=>?_);conv=>whnf
  refine tn [1,1] (by simp) (by simp) h1 b1 _ _ _ 2 l1 g1 rfl (λa p1 n1 c1 p2 n2 c2 b hs=>?_);conv=>whnf
  exact⟨Heap.le_trans hle l1,hs⟩
 refine cy k9 ?_;conv=>whnf
 by_cases D3:kind=10
 ·subst D3;conv=>whnf
  refine dI [.int .i64 8] rfl (λb1 h1 gI e1 l1 g1=>?_);conv=>whnf
  refine tn [8] (by simp) (by simp) h1 b1 _ _ _ 1 l1 g1 rfl (λa p1 n1 c1 p2 n2 c2 b hs=>?_);conv=>whnf
  exact⟨Heap.le_trans hle l1,hs⟩
 refine cy D3 ?_;conv=>whnf
 by_cases Db:kind=24
 ·subst Db;conv=>whnf
  refine dI [.int .i64 1] rfl (λb1 h1 gI e1 l1 g1=>?_);conv=>whnf
  refine tn [1] (by simp) (by simp) h1 b1 _ _ _ 1 l1 g1 rfl (λa p1 n1 c1 p2 n2 c2 b hs=>?_);conv=>whnf
  exact⟨Heap.le_trans hle l1,hs⟩
 refine cy Db ?_;conv=>whnf
 by_cases JU:kind=23
 ·subst JU;conv=>whnf
  refine dI [.int .i64 9] rfl (λb1 h1 gI e1 l1 g1=>?_);conv=>whnf
  refine tn [9] (by simp) (by simp) h1 b1 _ _ _ 1 l1 g1 rfl (λa p1 n1 c1 p2 n2 c2 b hs=>?_);conv=>whnf
  exact⟨Heap.le_trans hle l1,hs⟩
 refine cy JU ?_;conv=>whnf
 have e9:pG cs ⟨kind,a,b⟩ s=some s:=by simp[pG,k1,k2,k3,k4,k5,k6,k7,k8,k9,D3,JU,Db]
 rw[e9];exact⟨hle,hI.out⟩
theorem rN {cs:List dR} (ok:cj cs):∀(k:Nat) {c:Int},c.toNat < k->c < cs.length->ie cs.length (cX cs c)
 | 0,c,h,_=>by omega
 | k+1,c,h,hl=>by
  by_cases h0:c<=0
  ·rw[eO h0];intro t ht;cases ht
  ·have hi:c.toNat < cs.length:=by omega
   have hc:=ok.2.2 c.toNat hi;have hs:=ok.bN (a:=c) (by omega) hl;rw[lH ok (by omega) hl];intro t ht;rcases List.mem_append.1 ht with ht|ht
   ·exact rN ok k (c:=bC cs c) (by omega) (by omega) t ht
   ·have:iP cs c=cs[c.toNat].fields:=by simp[iP,hi]
    rw[this]at ht;exact hc.1 t ht
theorem gq {n t:Int} (h:cR n t):0 < t/\(t < 8\/t < 8+n):=by unfold cR at h;omega
theorem yL {K:Value->Heap->Prop} {E:List PanicEntry->Heap->Prop} {p:Option Addr} {n c:Nat} {cs:List dR} {x:Int} {h:Heap} (hcs:fo h (.slice p n c) cs) (ok:cj cs) (hx:0<=x/\x < cs.length)
  (hK:∀ h' p' c',h.le h'->cT h' (.slice p' (cX cs x).length c') (cX cs x)->K (.slice p' (cX cs x).length c') h'):jA prog 98 [.slice p n c,.int .i64 x] h K E :=
 cE (lZ (x.toNat+1) p n c cs x h hcs ok hx.1 hx.2 (by omega)) (λv h' hh=>by
  obtain⟨l1,B,own,_⟩:=hh;obtain⟨p',c',rfl,_⟩:=own.form;have hl:=fH ok hx.2;have hi:∀ t∈cX cs x,cL t:=λt ht=>by
   have:=gq (rN ok (x.toNat+1) (by omega) hx.2 t ht);have:=ok.2.1;unfold cL;omega
  have hr:=eW own (by omega) hi;rw[hr.1];exact⟨l1,hK h' p' c' l1 hr.2⟩)
def yM (a:Int):Int:=if a=0 then 3 else 4
def nD (a:Int):Int:=if a=0 then 1 else 8
def vT (cs:List dR) (i:dX) (s:dH):Option dH :=
 if i.kind=12 then iG (some s) (8+i.a)
 else if i.kind=13 then iG (gM cs s [1]) (yM i.a)
 else if i.kind=14 then iG (match gM cs s [3]with
  | some r=>some r
  | none=>gM cs s [4]) 1
 else if i.kind=15 then iG (gM cs s [yM i.a,1]) (nD i.a)
 else if i.kind=16 then gM cs s [yM i.a,1,nD i.a]
 else if i.kind=17 then iG (gM cs s [8+i.a]) ((cX cs i.a).getD i.b.toNat 0)
 else if i.kind=18 then gM cs s [8+i.a,(cX cs i.a).getD i.b.toNat 0]
 else iG (gM cs s [8]) (8+i.a)
theorem Fi (p:Option Addr) (n c:Nat) (cs:List dR) (kind a b:Int) (s:dH) (lp kp:Option Addr) (lc kc:Nat) (h:Heap) (hcs:fo h (.slice p n c) cs) (ok:cj cs) (hI:si h s lp kp lc kc) (hv:∀ t∈s.stack,t < 8+cs.length) (hl2:s.stack.length<=1000)
  (hk:12<=kind/\kind<=19) (ha:0<=a/\a<=4) (hc:kind=12\/kind=17\/kind=18\/kind=19->a < cs.length) (U:kind=17\/kind=18->0<=b/\b < (cX cs a).length) :
  bI prog 188 [.slice p n c,.agg #[.int .i64 kind,.int .i64 a,.int .i64 b],.agg #[.bool s.told,.slice lp s.locals.length lc,.slice kp s.stack.length kc]] h λv h'=>h.le h'/\uG h' v (vT cs ⟨kind,a,b⟩ s):=by
 have LD:=ok.1;have zm:=ok.2.1;have WZ:∀ r,some s=some r->r.stack.length<=1000:=λr hr=>by simp only[Option.some.injEq]at hr;subst hr;exact hl2
 have Ow:yM a=3\/yM a=4:=by unfold yM;split<;>simp
 have J4:nD a=1\/nD a=8:=by unfold nD;split<;>simp
 have Fj:∀ {t:Int},0<=t->t<=1000->cL t:=λh0 h1=>by unfold cL;omega
 have HH:kind=17\/kind=18->0<=(cX cs a).getD b.toNat 0/\(cX cs a).getD b.toNat 0 < 8+cs.length/\(cX cs a).getD b.toNat 0<=100:=λhk=>by
  have bz:=U hk;have cG:b.toNat < (cX cs a).length:=by omega
  have e:(cX cs a).getD b.toNat 0=(cX cs a)[b.toNat]:=by simp[cG]
  have:=gq (rN ok (a.toNat+1) (by omega) (hc (by omega)) _ (List.getElem_mem cG));rw[e];have iS:(cX cs a)[b.toNat] < 8+cs.length:=by omega
  omega
 have tn:∀(types:List Int),types.length<=1000->(∀ x∈types,0<=x/\x < 8+cs.length/\x<=100)->∀(h1:Heap) (bt:Nat) (ty:TypeId) (K:Value->Heap->Prop) (E:List PanicEntry->Heap->Prop) (nt:Nat),h.le h1->h1 bt=some (.cells (types.map (Value.int .i64)).toArray ty (0,0))->nt=types.length ->
   (∀ a p1 n1 c1 p2 n2 c2 b,uG h1 (.tuple #[.agg #[.bool a,.slice p1 n1 c1,.slice p2 n2 c2],.bool b]) (gM cs s types)->K (.tuple #[.agg #[.bool a,.slice p1 n1 c1,.slice p2 n2 c2],.bool b]) h1) ->
   Vc.Call prog 186 [.slice p n c,.agg #[.bool s.told,.slice lp s.locals.length lc,.slice kp s.stack.length kc],.slice (some ⟨bt,0,none⟩) nt nt] h1 K E:=by
  intro types hl hx h1 bt ty K E nt l1 g1 hn hK;subst hn;exact Kz (hcs.le l1 (λ_ _ hx=>hx.le l1)) ok (hI.1.le l1) (hI.2.le l1) rfl (uI g1 hl (λx xY=>by have:=hx x xY;omega)) hv (λx xY=>by have:=hx x xY;omega) hK
 have Nm:=HG a h;have e1:(if a=0 then (3:Int)else 4)=yM a:=rfl;have e2:(if a=0 then (1:Int)else 8)=nD a:=rfl;rw[e1,e2]at Nm;generalize m4:yM a=YG at Nm Ow;generalize het:nD a=et1 at Nm J4;refine bS au func188 Uw Ux rfl ?_;conv=>whnf
 refine ay Nm ?_;conv=>whnf
 refine aj ?_;conv=>whnf
 by_cases JS:kind=12
 ·subst JS;conv=>whnf
  refine pH hI.out (Fj (by omega) (by omega)) WZ (λh1 a p1 n1 c1 p2 n2 c2 b l1 hs=>?_);conv=>whnf
  exact⟨l1,hs⟩
 refine cy JS ?_;conv=>whnf
 by_cases MT:kind=13
 ·subst MT;conv=>whnf
  refine dI [.int .i64 1] rfl (λb1 h1 gI e1 l1 g1=>?_);conv=>whnf
  refine tn [1] (by simp) (by simp;omega) h1 b1 _ _ _ 1 l1 g1 rfl (λa p1 n1 c1 p2 n2 c2 b hs=>?_);conv=>whnf
  refine pH hs (Fj (by omega) (by omega)) (iA hl2) (λh2 a p1 n1 c1 p2 n2 c2 b l2 hs=>?_);conv=>whnf
  refine⟨Heap.le_trans l1 l2,?_⟩;rw[<-m4]at hs;exact hs
 refine cy MT ?_;conv=>whnf
 by_cases LP:kind=14
 ·subst LP;conv=>whnf
  refine dI [.int .i64 3] rfl (λb1 h1 gI e1 l1 g1=>?_);conv=>whnf
  refine tn [3] (by simp) (by simp;omega) h1 b1 _ _ _ 1 l1 g1 rfl (λa1 p1 n1 c1 p2 n2 c2 b2 hs=>?_);have et:vT cs ⟨14,a,b⟩ s=iG (match gM cs s [3]with
   | some r=>some r
   | none=>gM cs s [4]) 1:=rfl
  rw[et];cases hp3:gM cs s [3]with
  | some r =>
   rw[hp3]at hs;have eX:b2=true:=by obtain⟨_,_,_,_,e,_⟩:=hs;simp only[Value.tuple.injEq,Array.mk.injEq,List.cons.injEq,Value.bool.injEq,and_true]at e;exact e.2
   subst eX;have Iq:=iA hl2 r hp3;conv=>whnf
   refine pH hs (Fj (by omega) (by omega)) (λr' IN=>by simp only[Option.some.injEq]at IN;subst IN;exact Iq) (λh2 a p1 n1 c1 p2 n2 c2 b l2 hs=>?_);conv=>whnf
   exact⟨Heap.le_trans l1 l2,hs⟩
  | none =>
   rw[hp3]at hs;have eX:b2=false:=by obtain⟨_,_,_,_,_,_,_,e⟩:=hs;simp only[Value.tuple.injEq,Array.mk.injEq,List.cons.injEq,Value.bool.injEq,and_true]at e;exact e.2
   subst eX;conv=>whnf
   refine dI [.int .i64 4] rfl (λb3 h3 rU e3 l3 g3=>?_);conv=>whnf
   refine tn [4] (by simp) (by simp;omega) h3 b3 _ _ _ 1 (Heap.le_trans l1 l3) g3 rfl (λa1 p1 n1 c1 p2 n2 c2 b2 hs=>?_);conv=>whnf
   refine pH hs (Fj (by omega) (by omega)) (iA hl2) (λh2 a p1 n1 c1 p2 n2 c2 b l2 hs=>?_);conv=>whnf
   exact⟨Heap.le_trans l1 (Heap.le_trans l3 l2),hs⟩
 refine cy LP ?_;conv=>whnf
 by_cases LQ:kind=15
 ·subst LQ;conv=>whnf
  refine dI [.int .i64 YG,.int .i64 1] rfl (λb1 h1 gI e1 l1 g1=>?_);conv=>whnf
  refine tn [YG,1] (by simp) (by simp;omega) h1 b1 _ _ _ 2 l1 g1 rfl (λa1 p1 n1 c1 p2 n2 c2 b2 hs=>?_);conv=>whnf
  refine pH hs (Fj (by omega) (by omega)) (iA hl2) (λh2 a1 p1 n1 c1 p2 n2 c2 b2 l2 hs=>?_);conv=>whnf
  refine⟨Heap.le_trans l1 l2,?_⟩;rw[<-m4,<-het]at hs;exact hs
 refine cy LQ ?_;conv=>whnf
 by_cases LR:kind=16
 ·subst LR;conv=>whnf
  refine dI [.int .i64 YG,.int .i64 1,.int .i64 et1] rfl (λb1 h1 gI e1 l1 g1=>?_);conv=>whnf
  refine tn [YG,1,et1] (by simp) (by simp;omega) h1 b1 _ _ _ 3 l1 g1 rfl (λa1 p1 n1 c1 p2 n2 c2 b2 hs=>?_);conv=>whnf
  refine⟨l1,?_⟩;rw[<-m4,<-het]at hs;exact hs
 refine cy LR ?_;conv=>whnf
 by_cases LS:kind=17
 ·subst LS;have hf:=HH (.inl rfl);have Qr:=hc (by simp);have rG:=U (.inl rfl);have cG:b.toNat < (cX cs a).length:=by omega
  have QX:(cX cs a).getD b.toNat 0=(cX cs a)[b.toNat]:=by simp[cG]
  conv=>whnf
  refine dI [.int .i64 (8+a)] rfl (λb1 h1 gI e1 l1 g1=>?_);conv=>whnf
  refine tn [8+a] (by simp) (by simp;omega) h1 b1 _ _ _ 1 l1 g1 rfl (λa1 p1 n1 c1 p2 n2 c2 b2 hs=>?_);have Ba:=hcs.le l1 (λ_ _ hx=>hx.le l1);have key:∀(h3:Heap) (p':Option Addr) (c':Nat),cT h3 (.slice p' (cX cs a).length c') (cX cs a)->∃ bq oq,p'=some ⟨bq,oq,none⟩/\rd h3 bq (oq+b.toNat*1)=some (.int .i64 ((cX cs a).getD b.toNat 0)):=λh3 p' c' hi=>by
   rw[QX];exact hi.at cG
  have OJ:∀ h3,h1.le h3->uG h3 (.tuple #[.agg #[.bool a1,.slice p1 n1 c1,.slice p2 n2 c2],.bool b2]) (gM cs s [8+a]):=λh3 l3=>by
   cases hp:gM cs s [8+a]with
   | none=>rw[hp]at hs;exact hs
   | some r =>
    rw[hp]at hs;obtain⟨q1,d1,q2,d2,e,i1,i2⟩:=hs;exact⟨q1,d1,q2,d2,e,i1.le l3,i2.le l3⟩
  have ldk:∀(h3:Heap) (p':Option Addr) (c':Nat),cT h3 (.slice p' (cX cs a).length c') (cX cs a)->∀ K:Nat->Nat->Prop,(∀ bq oq,rd h3 bq (oq+b.toNat*1)=some (.int .i64 ((cX cs a).getD b.toNat 0))->K bq oq)->Ptr p' K:=λh3 p' c' hi K hk=>by
   obtain⟨bq,oq,e,r⟩:=key h3 p' c' hi;exact aO e (hk bq oq r)
  conv=>whnf
  repeat' ((first|exact trivial|apply And.intro|refine yL Ba ok ⟨ha.1,Qr⟩ (λh3 p' c' l3 hi=>?_)|refine aq ?_|refine ldk h3 p' c' hi _ (λbq oq rq=>?_)|refine ld rq ?_|refine uH (OJ h3 l3) (Fj (by omega) (by omega)) (iA hl2) (λh4 a1 p1 n1 c1 p2 n2 c2 b2 l4 hs=>?_))<;>conv=>whnf)
  all_goals first|exact Heap.le_trans l1 (Heap.le_trans l3 l4)|exact hs
 refine cy LS ?_;conv=>whnf
 by_cases LU:kind=18
 ·subst LU;have hf:=HH (.inr rfl);have Qr:=hc (by simp);have rG:=U (.inr rfl);have cG:b.toNat < (cX cs a).length:=by omega
  have QX:(cX cs a).getD b.toNat 0=(cX cs a)[b.toNat]:=by simp[cG]
  have ldk:∀(h3:Heap) (p':Option Addr) (c':Nat),cT h3 (.slice p' (cX cs a).length c') (cX cs a)->∀ K:Nat->Nat->Prop,(∀ bq oq,rd h3 bq (oq+b.toNat*1)=some (.int .i64 ((cX cs a).getD b.toNat 0))->K bq oq)->Ptr p' K:=λh3 p' c' hi K hk=>by
   obtain⟨bq,oq,e,r⟩:=hi.at cG;exact aO e (hk bq oq (by rw[QX];exact r))
  have two:∀ x∈[8+a,(cX cs a).getD b.toNat 0],0<=x/\x < 8+cs.length/\x<=100:=λx xY=>by
   rcases List.mem_cons.1 xY with rfl|xY
   ·omega
   ·rw[List.mem_singleton.1 xY];exact hf
  have aa0:∀(h1:Heap) (bt:Nat) (ty:TypeId) (K:Value->Heap->Prop) (E:List PanicEntry->Heap->Prop) (nt:Nat),h.le h1->h1 bt=some (.cells ([8+a,(cX cs a).getD b.toNat 0].map (Value.int .i64)).toArray ty (0,0))->nt=2 ->
    (∀ a1 p1 n1 c1 p2 n2 c2 b1,uG h1 (.tuple #[.agg #[.bool a1,.slice p1 n1 c1,.slice p2 n2 c2],.bool b1]) (gM cs s [8+a,(cX cs a).getD b.toNat 0])->K (.tuple #[.agg #[.bool a1,.slice p1 n1 c1,.slice p2 n2 c2],.bool b1]) h1) ->
    jA prog 186 [.slice p n c,.agg #[.bool s.told,.slice lp s.locals.length lc,.slice kp s.stack.length kc],.slice (some ⟨bt,0,none⟩) nt nt] h1 K E:=by
   intro h1 bt ty K E nt l1 g1 hn hK;subst hn;exact Fg (types:=[8+a,(cX cs a).getD b.toNat 0]) (hcs.le l1 (λ_ _ hx=>hx.le l1)) ok (hI.1.le l1) (hI.2.le l1) rfl (uI g1 (by simp) (λx xY=>by have:=two x xY;omega)) hv (λx xY=>by have:=two x xY;omega) hK
  conv=>whnf
  repeat' ((first|exact trivial|apply And.intro|refine yL hcs ok ⟨ha.1,Qr⟩ (λh3 p' c' l3 hi=>?_)|refine aq ?_|refine ldk h3 p' c' hi _ (λbq oq rq=>?_)|refine ld rq ?_|refine dI [.int .i64 (8+a),.int .i64 ((cX cs a).getD b.toNat 0)] rfl (λb5 h5 qw e5 l5 g5=>?_)|refine aa0 h5 b5 _ _ _ _ (Heap.le_trans l3 l5) g5 rfl (λa1 p1 n1 c1 p2 n2 c2 b2 hs=>?_))<;>conv=>whnf)
  all_goals first|exact Heap.le_trans l3 l5|exact hs
 refine cy LU ?_;conv=>whnf
 have MU:kind=19:=by omega
 subst MU;refine dI [.int .i64 8] rfl (λb1 h1 gI e1 l1 g1=>?_);conv=>whnf
 refine tn [8] (by simp) (by simp;omega) h1 b1 _ _ _ 1 l1 g1 rfl (λa1 p1 n1 c1 p2 n2 c2 b2 hs=>?_);conv=>whnf
 refine pH hs (Fj (by omega) (by omega)) (iA hl2) (λh2 a1 p1 n1 c1 p2 n2 c2 b2 l2 hs=>?_);conv=>whnf
 exact⟨Heap.le_trans l1 l2,hs⟩
theorem kC {el:TypeId} {h h1:Heap} {p:Option Addr} {n c m:Nat} {l k:List Int} {B:List Nat} {K:Value->Heap->Prop} (ho:dV h1 (.slice p n c) l B) (hB:∀ b∈B,h b=none) (hl:h.le h1) (hm:m=k.length) (hs:l.length+k.length<=1000000) (hi:∀ t∈l++k,cL t)
  (hk:∀ p' c' h2 B',h.le h2->dV h2 (.slice p' (l.length+k.length) c') (l++k) B'->cT h2 (.slice p' (l++k).length c') (l++k)->(∀ b∈B',h b=none)->K (.slice p' (l++k).length c') h2):App 8 1 [.int .i64 0] el h1 p n c m (k.map (Value.int .i64)) K:=by
 refine cY (h0:=h) (xs:=l.map bO) (ys:=k.map bO) ho hB hl (dA k).symm (by rw[hm];simp) (λy hy=>by obtain⟨w,_,rfl⟩:=List.mem_map.1 hy;rfl) (dw k) rfl (by simp;omega) (by simp;omega) ?_;intro v' h2 B2 k1 k2 k3 k4 k5;have zn:dV h2 v' (l++k) B2:=by unfold dV;rw[List.map_append];exact k2
 obtain⟨p',c',rfl,_⟩:=cn.form zn;have rM:((l++k).map bO).length=(l++k).length:=by simp
 rw[rM]at zn ⊢;have sO:(l++k).length=l.length+k.length:=by simp
 exact hk p' c' h2 B2 k1 (by rw[<-sO];exact zn) (eW zn (by rw[sO];omega) hi).2 k3
def yN (u:aU) (i:dX) (s:dH):Option dH :=
 let k:=if i.kind=21 then find u i.a i.b else i.a
 if k < 0 then none else iG (gM u.J s ((if i.kind=21 then [8+i.a]else [])++(br u k).args)) (br u k).out
def HI (u:aU):Prop:=cj u.J/\∀ m∈u.methods,m.args.length<=3/\ie u.J.length m.args/\cR u.J.length m.out
theorem HI.br {u:aU} (hu:HI u) {k:Int} (h:0<=k/\k < u.methods.length):(br u k).args.length<=3/\ie u.J.length (br u k).args/\cR u.J.length (br u k).out:=hu.2 _ (ir h)
theorem HJ (us:List Value) (u:aU) (kind a b:Int) (s:dH) (lp kp:Option Addr) (lc kc:Nat) (h:Heap) (hu:dL h us u) (hV:HI u) (hI:si h s lp kp lc kc) (hv:∀ t∈s.stack,t < 8+(u.J.length:Int)) (hl2:s.stack.length<=1000)
  (hk:kind=20\/kind=21) (G0:kind=20->0<=a/\a < u.methods.length) (LJ:kind=21->0<=a/\a < u.J.length) :
  bI prog 187 [.agg ⟨us⟩,.agg #[.int .i64 kind,.int .i64 a,.int .i64 b],.agg #[.bool s.told,.slice lp s.locals.length lc,.slice kp s.stack.length kc]] h λv h'=>h.le h'/\uG h' v (yN u ⟨kind,a,b⟩ s):=by
 have iJ:=hu;obtain⟨p,cc,q,d,rfl,hcs,fM,jN,aa1⟩:=hu.form;have ok:=hV.1;have zm:=ok.2.1;have args:∀(h1:Heap) (k:Int),h.le h1->0<=k->k < u.methods.length->∃ bb oo pa ca,q=some ⟨bb,oo,none⟩/\rd h1 bb (oo+k.toNat*8+2)=some (.slice pa (br u k).args.length ca)/\rd h1 bb (oo+k.toNat*8+3)=some (.int .i64 (br u k).out)/\cT h1 (.slice pa (br u k).args.length ca) (br u k).args:=by
  intro h1 k l1 LA FZ;have hi:k.toNat < u.methods.length:=by omega
  obtain⟨bb,oo,ms,vw,e1,e2⟩:=fM.get hi;have mY:br u k=u.methods[k.toNat]:=gv hi (by omega);obtain⟨p1,c1,p2,c2,p3,c3,p4,c4,e3,k1,k2,k3,k4,k5,k6,k7,k8,d1,d2,d3,d4⟩:=e2.form;subst e3;exact⟨bb,oo,p1,c1,vw,by rw[mY];exact aX l1 (aK e1 (i:=2) rfl),by rw[mY];exact aX l1 (aK e1 (i:=3) rfl),by rw[mY];exact k5.le l1⟩
 rcases hk with rfl|rfl
 ·have ha:=G0 rfl;have et:yN u ⟨20,a,b⟩ s=iG (gM u.J s ([]++(br u a).args)) (br u a).out:=by
   unfold yN;simp;omega
  rw[et];have hm:=hV.br ha;have ho:=gq hm.2.2;obtain⟨bb,oo,pa,ca,hq,ra,ro,ri⟩:=args h a (Heap.le_refl h) ha.1 ha.2;have W0:∀ t∈[]++(br u a).args,0<=t/\t < 8+(u.J.length:Int):=λt ht=>by
   have:=gq (hm.2.1 t (by simpa using ht));omega
  refine bS au func187 MA I6 rfl ?_;conv=>whnf
  refine dI [] rfl (λb0 h1 uY e0 l1 g0=>?_);conv=>whnf
  refine bL ?_;conv=>whnf
  have ra1:=aX l1 ra;repeat' ((first|exact trivial|apply And.intro|refine aq ?_|refine aO hq ?_|refine ld ra1 ?_|refine Du l1 ri ?_|refine kC (l:=[]) (dP g0) (by simpa using uY) l1 rfl (by simp;omega) (λt ht=>by have:=W0 t ht;unfold cL;omega) (λp2 c2 h2 B2 l2 o2 r2 n2=>?_)|refine Fg (hcs.le l2 (λ_ _ hx=>hx.le l2)) ok (hI.1.le l2) (hI.2.le l2) rfl r2 hv (λt ht=>(W0 t ht).2) (λa1 p1 n1 c1 p3 n3 c3 b1 hs=>?_))<;>conv=>whnf)
  all_goals
   have ro1:=aX l2 ro;repeat' ((first|exact trivial|apply And.intro|refine aq ?_|refine aO hq ?_|refine ld ro1 ?_|refine uH hs (by unfold cL;omega) (iA hl2) (λh4 a1 p1 n1 c1 p3 n3 c3 b1 l4 hs=>?_))<;>conv=>whnf)
   all_goals first|exact Heap.le_trans l2 l4|exact hs
 ·have ha:=LJ rfl;have et:yN u ⟨21,a,b⟩ s=if find u a b < 0 then none else iG (gM u.J s ([8+a]++(br u (find u a b)).args)) (br u (find u a b)).out:=rfl
  rw[et];have BU:=λ(h1:Heap) (l1:h.le h1)=>tX _ u a b h1 (iJ.le l1) ok (by omega) ha.2;have Zf:=ji u a b;by_cases hf:find u a b < 0
  ·rw[if_pos hf];generalize find u a b=k at BU hf;refine bS au func187 MA I6 rfl ?_;conv=>whnf
   refine dI [] rfl (λb0 h1 uY e0 l1 g0=>?_);conv=>whnf
   refine ay (BU h1 l1) ?_;conv=>whnf
   refine aj ?_;conv=>whnf
   refine kC (l:=[]) (k:=[8+a]) (dP g0) (by simpa using uY) l1 rfl (by simp) (λt ht=>by simp at ht;unfold cL;omega) (λp2 c2 h2 B2 l2 o2 r2 n2=>?_);conv=>whnf
   refine fX hf ?_;conv=>whnf
   exact⟨l2,_,_,_,_,_,_,_,rfl⟩
  ·rw[if_neg hf];have L0:0<=find u a b/\find u a b < u.methods.length:=by omega
   generalize find u a b=k at BU hf L0;have hm:=hV.br L0;have ho:=gq hm.2.2;obtain⟨bb,oo,pa,ca,hq,ra,ro,ri⟩:=args h k (Heap.le_refl h) L0.1 L0.2;have W0:∀ t∈([]++[8+a])++(br u k).args,0<=t/\t < 8+(u.J.length:Int):=λt ht=>by
    simp only[List.nil_append,List.cons_append,List.mem_cons]at ht;rcases ht with rfl|ht
    ·omega
    ·have:=gq (hm.2.1 t ht);omega
   refine bS au func187 MA I6 rfl ?_;conv=>whnf
   refine dI [] rfl (λb0 h1 uY e0 l1 g0=>?_);conv=>whnf
   refine ay (BU h1 l1) ?_;conv=>whnf
   refine aj ?_;conv=>whnf
   refine kC (l:=[]) (k:=[8+a]) (dP g0) (by simpa using uY) l1 rfl (by simp) (λt ht=>by simp at ht;unfold cL;omega) (λp2 c2 h2 B2 l2 o2 r2 n2=>?_);conv=>whnf
   refine cy hf ?_;conv=>whnf
   have ra1:=aX l2 ra;repeat' ((first|exact trivial|apply And.intro|refine aq ?_|refine aO hq ?_|refine ld ra1 ?_|refine Du l2 ri ?_|refine kC (l:=[]++[8+a]) o2 n2 l2 rfl (by simp;omega) (λt ht=>by have:=W0 t ht;unfold cL;omega) (λp4 c4 h4 B4 l4 o4 r4 n4=>?_)|refine Fg (hcs.le l4 (λ_ _ hx=>hx.le l4)) ok (hI.1.le l4) (hI.2.le l4) rfl r4 hv (λt ht=>(W0 t ht).2) (λa1 p1 n1 c1 p3 n3 c3 b1 hs=>?_))<;>conv=>whnf)
   all_goals
    have ro1:=aX l4 ro;repeat' ((first|exact trivial|apply And.intro|refine aq ?_|refine aO hq ?_|refine ld ro1 ?_|refine uH hs (by unfold cL;omega) (iA hl2) (λh5 a1 p1 n1 c1 p3 n3 c3 b1 l5 hs=>?_))<;>conv=>whnf)
    all_goals first|exact Heap.le_trans l4 l5|exact hs
def stepT (u:aU) (m:cB) (i:dX) (s:dH):Option dH :=
 if i.kind=22 then gM u.J s [m.out]
 else if i.kind=20\/i.kind=21 then yN u i s
 else if 12<=i.kind/\i.kind<=19 then vT u.J i s
 else pG u.J i s
structure uJ (n:Nat) (k:Int) (s:dH):Prop where
 loc:(s.locals.length:Int)=k
 fK:∀ t∈s.locals,0<=t/\t < 8+(n:Int)
 cA:∀ t∈s.stack,0<=t/\t < 8+(n:Int)
 len:s.stack.length<=4
theorem vU (us ms:List Value) (u:aU) (m:cB) (at_:Int) (s:dH) (lp kp:Option Addr) (lc kc:Nat) (h:Heap) (hu:dL h us u) (hm:ee h ms m) (hV:HI u) (hI:si h s lp kp lc kc) (hs:uJ u.J.length m.locals s) (hl:m.locals<=3) (m4:0<=at_/\at_ < m.code.length) (hx:eH u m (m.code.getD at_.toNat dW)) (eU:cR u.J.length m.out) :
  bI prog 161 [.agg ⟨us⟩,.agg ⟨ms⟩,.int .i64 at_,.agg #[.bool s.told,.slice lp s.locals.length lc,.slice kp s.stack.length kc]] h λv h'=>h.le h'/\uG h' v (stepT u m (m.code.getD at_.toNat dW) s):=by
 have iJ:=hu;obtain⟨p,cc,q,d,rfl,hcs,fM,jN,aa1⟩:=hu.form;have ok:=hV.1;have zm:=ok.2.1;obtain⟨p1,c1,p2,c2,p3,c3,p4,c4,rfl,k1,k2,k3,k4,k5,k6,k7,k8,d1,d2,d3,d4⟩:=hm.form;have cG:at_.toNat < m.code.length:=by omega
 obtain⟨bc,oc,cvs,JE,f1,f2,f3⟩:=k6.get cG;have hg:m.code.getD at_.toNat dW=m.code[at_.toNat]:=by simp[cG]
 rw[hg]at hx ⊢;subst f2;generalize m.code[at_.toNat]=x at f1 hx;obtain⟨kind,a,b⟩:=x;simp only at f1;have qK:=vS s.told lp kp lc kc s.locals s.stack h hI.1 hI.2 (by have:=hs.loc;omega) (by have:=hs.len;omega);have iT:∀ t∈s.stack,t < 8+(u.J.length:Int):=λt ht=>(hs.cA t ht).2;have R4:=hs.len;have abA:=gq eU;have i1:∀ t∈s.locals,cL t:=λt ht=>by have:=hs.fK t ht;unfold cL;omega
 have i2:∀ t∈s.stack,cL t:=λt ht=>by have:=hs.cA t ht;unfold cL;omega
 have et:stepT u m ⟨kind,a,b⟩ s=if kind=22 then gM u.J s [m.out]else if kind=20\/kind=21 then yN u ⟨kind,a,b⟩ s else if 12<=kind/\kind<=19 then vT u.J ⟨kind,a,b⟩ s else pG u.J ⟨kind,a,b⟩ s:=rfl
 generalize stepT u m ⟨kind,a,b⟩ s=res at et;refine bS au func161 TU TV rfl ?_;conv=>whnf
 refine aq ?_;conv=>whnf
 refine aO JE ?_;conv=>whnf
 refine dK f1 ?_;conv=>whnf
 refine aD qK (λv h1 hh=>?_);refine hh.elim λq1 hh=>hh.elim λe1 hh=>hh.elim λq2 hh=>hh.elim λe2 hh=>hh.elim λB1 hh=>hh.elim λB2 hh=>?_;have hv:=hh.1;subst hv;have st:=hh.2;have LY:=st.le;have r1:=(eW st.o1 (by have:=hs.loc;omega) i1).2;have r2:=(eW st.o2 (by omega) i2).2;have Q5:si h1 s q1 q2 e1 e2:=⟨r1,r2⟩
 have Ba:fo h1 (.slice p u.J.length cc) u.J:=hcs.le LY (λ_ _ hx=>hx.le LY);have CT:=iJ.le LY;by_cases D4:kind=22
 ·rw[if_pos D4]at et;subst D4;conv=>whnf
  refine dI [.int .i64 m.out] rfl (λb3 h3 rU e3 l3 g3=>?_);conv=>whnf
  refine Kz (types:=[m.out]) (Ba.le l3 (λ_ _ hx=>hx.le l3)) ok (Q5.1.le l3) (Q5.2.le l3) rfl (uI g3 (by simp) (λx xY=>by rw[List.mem_singleton.1 xY];omega)) iT (λx xY=>by rw[List.mem_singleton.1 xY];omega) (λa1 p1 n1 c1 p3 n3 c3 b1 hs=>?_);conv=>whnf
  rw[et];exact⟨Heap.le_trans LY l3,hs⟩
 rw[if_neg D4]at et;by_cases D6:kind=20\/kind=21
 ·rw[if_pos D6]at et;have fy:=HJ _ u kind a b s q1 q2 e1 e2 h1 CT hV Q5 iT (by omega) D6 (λhk=>by
   subst hk;have:=(aI (p:=7) (q:=0) rfl).1 hx;simp[bA]at this;exact this.1.1) (λhk=>by
   subst hk;have:=(aI (p:=5) (q:=9) rfl).1 hx;simp[bA]at this;exact this.1)
  rw[<-et]at fy;rcases D6 with rfl|rfl;all_goals
   conv=>whnf
   refine aD fy (λv h2 hh=>?_);refine hh.2.form.elim λa1 hf=>hf.elim λp1 hf=>hf.elim λn1 hf=>hf.elim λc1 hf=>hf.elim λp3 hf=>hf.elim λn3 hf=>hf.elim λc3 hf=>hf.elim λb1 hf=>?_;subst hf;conv=>whnf
   exact⟨Heap.le_trans LY hh.1,hh.2⟩
 rw[if_neg D6]at et;have MW:¬kind=20:=λhk=>D6 (.inl hk);have MX:¬kind=21:=λhk=>D6 (.inr hk);conv=>whnf
 refine cy D4 ?_;conv=>whnf
 refine cy MW ?_;conv=>whnf
 refine cy MX ?_;conv=>whnf
 refine ay (er _ _ _ _) ?_;conv=>whnf
 apply ax<;>intro kt;all_goals conv=>whnf
 ·rw[if_pos kt]at et;have LV:(kind=12\/kind=17\/kind=18\/kind=19->0<=a/\a < u.J.length)/\(kind=17\/kind=18->0<=b/\b < (cX u.J a).length):=hx.vM;have Ow:kind=13\/kind=15\/kind=16->a=0\/a=1:=λhk=>by
   rcases hk with rfl|rfl|rfl;all_goals
    have:=(aI (p:=6) (q:=0) rfl).1 hx;simp[bA]at this;exact this.1
  have h14:kind=14->a=0:=λhk=>by
   subst hk;have:=(aI (p:=0) (q:=0) rfl).1 hx;simp[bA]at this;exact this.1
  have KB:=Fi p u.J.length cc u.J kind a b s q1 q2 e1 e2 h1 Ba ok Q5 iT (by omega) kt (by
   by_cases hk:kind=12\/kind=17\/kind=18\/kind=19
   ·have:=LV.1 hk;omega
   ·by_cases R5:kind=14
    ·have:=h14 R5;omega
    ·have:=Ow (by omega);omega) (λhk=>(LV.1 hk).2) LV.2
  rw[<-et]at KB;refine aD KB (λv h2 hh=>?_);refine hh.2.form.elim λa1 hf=>hf.elim λp1 hf=>hf.elim λn1 hf=>hf.elim λc1 hf=>hf.elim λp3 hf=>hf.elim λn3 hf=>hf.elim λc3 hf=>hf.elim λb1 hf=>?_;subst hf;conv=>whnf
  exact⟨Heap.le_trans LY hh.1,hh.2⟩
 ·rw[if_neg kt]at et;have KC:=Fh p u.J.length cc u.J kind a b s q1 q2 e1 e2 B1 B2 h h1 Ba ok st Q5 iT (λhk=>by
   rcases hk with rfl|rfl;all_goals
    have:=(aI (p:=2) (q:=0) rfl).1 hx;simp[bA]at this;have:=hs.loc;omega) (by have:=hs.loc;omega) (by omega)
  rw[<-et]at KC;refine aD KC (λv h2 hh=>?_);refine hh.2.form.elim λa1 hf=>hf.elim λp1 hf=>hf.elim λn1 hf=>hf.elim λc1 hf=>hf.elim λp3 hf=>hf.elim λn3 hf=>hf.elim λc3 hf=>hf.elim λb1 hf=>?_;subst hf;conv=>whnf
  exact hh
def Cb (cs:List dR) (a b:dH):Bool:=decide (a.stack.length=b.stack.length)&&(iF cs a.locals b.locals&&iF cs a.stack b.stack)
theorem Am {cs:List dR} (l r:List Int):iF cs (l.drop l.length) (r.drop l.length)=true:=by rw[List.drop_length];simp[iF]
theorem BB (p:Option Addr) (n c:Nat) (cs:List dR) (s r:dH) (lp kp mp jp:Option Addr) (lc kc mc jc:Nat) (h:Heap) (hcs:fo h (.slice p n c) cs) (ok:cj cs) (hI:si h s lp kp lc kc) (hJ:si h r mp jp mc jc) (hl:s.locals.length<=r.locals.length) (jW:∀ t∈s.locals,t < 8+(cs.length:Int)) (zl:∀ t∈s.stack,t < 8+(cs.length:Int))
  (s9:∀ t∈r.locals,t < 8+(cs.length:Int)) (Q6:∀ t∈r.stack,t < 8+(cs.length:Int)) :
  Pure prog 159 [.slice p n c,.agg #[.bool s.told,.slice lp s.locals.length lc,.slice kp s.stack.length kc],.agg #[.bool r.told,.slice mp r.locals.length mc,.slice jp r.stack.length jc]] h (.bool (Cb cs s r)):=by
 have l1:=hI.1.1;have l2:=hI.2.1;have fin:∀ {b:Bool},Cb cs s r=b->Value.bool b=.bool (Cb cs s r):=λe=>by rw[e]
 refine gN au func159 TQ TR rfl ?_;conv=>whnf
 apply aV<;>intro g;all_goals conv=>whnf
 ·exact⟨fin (by unfold Cb;simp;omega),rfl⟩
 have hk:s.stack.length=r.stack.length:=by omega
 have fI:Cb cs s r=(iF cs (s.locals.drop 0) (r.locals.drop 0)&&iF cs s.stack r.stack):=by unfold Cb;simp[hk]
 refine fm [0,4,5,7] [4,5] (λi:Nat=>i<=s.locals.length/\Cb cs s r=(iF cs (s.locals.drop i) (r.locals.drop i)&&iF cs s.stack r.stack)) (λi=>s.locals.length-i)
  (λi=>([.v (.slice p n c),.l 4 0,.l 5 0,.v (.int .i64 i)],[some [.bool s.told,.slice lp s.locals.length lc,.slice kp s.stack.length kc],some [.bool r.told,.slice mp r.locals.length mc,.slice jp r.stack.length jc]],h)) 0 ⟨by omega,fI⟩ rfl ?_
 rintro i ⟨hi,hg⟩;conv=>whnf
 apply ax<;>intro g2;all_goals conv=>whnf
 ·have cG:i < s.locals.length:=by omega
  have vC:i < r.locals.length:=by omega
  obtain⟨b1,o1,q1,a1⟩:=hI.1.at cG;obtain⟨b2,o2,q2,a2⟩:=hJ.1.at vC;have hl2:=vG p n c cs s.locals[i] r.locals[i] h hcs ok (jW _ (List.getElem_mem cG)) (s9 _ (List.getElem_mem vC));rw[th cG vC]at hg;repeat' ((first|refine aq ?_|refine aO q1 ?_|refine aO q2 ?_|refine ld a1 ?_|refine ld a2 ?_|refine aT hl2 ?_)<;>conv=>whnf)
  apply bY<;>intro g3;all_goals conv=>whnf
  ·exact⟨fin (by rw[hg,g3];rfl),rfl⟩
  ·refine aj ?_;conv=>whnf
   refine dm (i+1) ⟨by omega,by rw[hg,g3];rfl⟩ (by omega) rfl
 ·have nV:i=s.locals.length:=by omega
  subst nV;rw[Am,Bool.true_and]at hg;have R1:Cb cs s r=iF cs (s.stack.drop 0) (r.stack.drop 0):=hg;refine fm [0,4,5,8] [4,5] (λi:Nat=>i<=s.stack.length/\Cb cs s r=iF cs (s.stack.drop i) (r.stack.drop i)) (λi=>s.stack.length-i)
   (λi=>([.v (.slice p n c),.l 4 0,.l 5 0,.v (.int .i64 i)],[some [.bool s.told,.slice lp s.locals.length lc,.slice kp s.stack.length kc],some [.bool r.told,.slice mp r.locals.length mc,.slice jp r.stack.length jc]],h)) 0 ⟨by omega,R1⟩ rfl ?_
  rintro i ⟨hi,hg⟩;conv=>whnf
  apply ax<;>intro g2;all_goals conv=>whnf
  ·have cG:i < s.stack.length:=by omega
   have vC:i < r.stack.length:=by omega
   obtain⟨b1,o1,q1,a1⟩:=hI.2.at cG;obtain⟨b2,o2,q2,a2⟩:=hJ.2.at vC;have hl2:=vG p n c cs s.stack[i] r.stack[i] h hcs ok (zl _ (List.getElem_mem cG)) (Q6 _ (List.getElem_mem vC));rw[th cG vC]at hg;repeat' ((first|refine aq ?_|refine aO q1 ?_|refine aO q2 ?_|refine ld a1 ?_|refine ld a2 ?_|refine aT hl2 ?_)<;>conv=>whnf)
   apply bY<;>intro g3;all_goals conv=>whnf
   ·exact⟨fin (by rw[hg,g3];rfl),rfl⟩
   ·refine aj ?_;conv=>whnf
    refine dm (i+1) ⟨by omega,by rw[hg,g3];rfl⟩ (by omega) rfl
  ·have nV:i=s.stack.length:=by omega
   subst nV;rw[Am]at hg;exact⟨fin hg,rfl⟩
theorem Gn {cs:List dR} (ok:cj cs):∀(k:Nat) {a:Int},a.toNat < k->0<=a->a < cs.length->up cs a 0=true
 | 0,a,h,_,_=>by omega
 | k+1,a,h,h0,hl=>by
  rw[ig ok h0 hl];by_cases ha:a=0
  ·simp[ha]
  ·have hi:a.toNat < cs.length:=by omega
   have hc:=ok.2.2 a.toNat hi;have hs:bC cs a=cs[a.toNat].bN:=by have:=lY hi;rwa [show((a.toNat:Nat):Int)=a by omega]at this
   have zl:=ok.bN h0 hl;have h1:0<=bC cs a:=by
    rw[hs];rcases Nat.lt_trichotomy a.toNat 1 with g|g|g
    ·omega
    ·rw[(hc.2.2.1 g).1];omega
    ·exact(hc.2.2.2.1 g).1
   have:=Gn ok k (a:=bC cs a) (by omega) h1 (by omega);simp[this]
theorem KD {cs:List dR} (ok:cj cs) {a:Int} (h0:0 < a) (hl:a < cs.length):0<=bC cs a:=by
 have hi:a.toNat < cs.length:=by omega
 have hc:=ok.2.2 a.toNat hi;have hs:bC cs a=cs[a.toNat].bN:=by have:=lY hi;rwa [show((a.toNat:Nat):Int)=a by omega]at this
 rw[hs];rcases Nat.lt_trichotomy a.toNat 1 with g|g|g
 ·omega
 ·rw[(hc.2.2.1 g).1];omega
 ·exact(hc.2.2.2.1 g).1
theorem KE (p:Option Addr) (n c:Nat) (cs:List dR) (a b:Int) (h:Heap) (hcs:fo h (.slice p n c) cs) (ok:cj cs) (ha:0<=a/\a < cs.length) (U:0<=b/\b < cs.length) :
  bI prog 227 [.slice p n c,.int .i64 a,.int .i64 b] h λv h'=>h'=h/\∃ j,v=.int .i64 j/\0<=j/\j<=a:=by
 have hn:=hcs.n;refine bS au func227 VF VG rfl ?_;conv=>whnf
 refine fm [0,1,2] [] (λj:Int=>0<=j/\j<=a) (λj=>j.toNat) (λj=>([.v (.slice p n c),.v (.int .i64 j),.v (.int .i64 b)],[],h)) a ⟨ha.1,by omega⟩ rfl ?_;rintro j ⟨hj0,R6⟩;conv=>whnf
 refine ay (sM p n c cs b j h hcs ok (by omega) U.2 hj0) ?_;conv=>whnf
 apply bY<;>intro g;all_goals conv=>whnf
 ·have Yn:0 < j:=by
   rcases Int.lt_or_le 0 j with h1|h1
   ·exact h1
   ·have:j=0:=by omega
    rw[this,Gn ok (b.toNat+1) (by omega) U.1 U.2]at g;cases g
  have hi:j.toNat < cs.length:=by omega
  obtain⟨bb,oo,q,k,d,hq,_,r0,_⟩:=hcs.at hi;have hs:bC cs j=cs[j.toNat].bN:=by have:=lY hi;rwa [show((j.toNat:Nat):Int)=j by omega]at this
  rw[<-hs]at r0;have zl:=ok.bN hj0 (by omega);have rW:=KD ok Yn (by omega);repeat' ((first|refine aO hq ?_|refine ld r0 ?_|refine aq ?_|refine aj ?_|refine ptr ?_)<;>conv=>whnf)
  exact dm (bC cs j) ⟨rW,by omega⟩ (by omega) rfl
 ·exact⟨rfl,j,rfl,hj0,R6⟩
def nE (t:Int):Nat:=if t=0 then 0 else if t=1 then 1 else if t=2 then 10 else if t < 8 then 2 else (t-7).toNat
def kV (cs:List dR) (a r:Int):Prop:=(0<=r/\r < 8+(cs.length:Int))/\nE r<=nE a/\(ju cs r a=false->nE r < nE a)
theorem Nn {cs:List dR} (ok:cj cs) {a b:Int} (ha:0<=a/\a < 8+(cs.length:Int)) (U:0<=b/\b < 8+(cs.length:Int)) (h:ju cs a b=true):nE b<=nE a/\(b≠a->nE b < nE a):=by
 have hc:=ok.2.1;unfold ju at h;by_cases h1:a=b\/b=0
 ·rcases h1 with rfl|rfl
  ·exact⟨Nat.le_refl _,λhn=>absurd rfl hn⟩
  ·refine⟨by simp[nE],λhn=>?_⟩;unfold nE;rw[if_pos rfl,if_neg (λh=>hn h.symm)];split
   ·omega
   ·split
    ·omega
    ·split<;>omega
 ·rw[if_neg h1]at h;by_cases h2:a=2
  ·rw[if_pos h2]at h;simp at h;unfold nE;subst h2;have:¬b=0/\¬b=1/\¬b=2:=by omega
   rw[if_neg this.1,if_neg this.2.1,if_neg this.2.2];split
   ·simp
   ·simp;omega
  ·rw[if_neg h2]at h;by_cases h3:a < 2\/b < 8
   ·rw[if_pos h3]at h;cases h
   ·rw[if_neg h3]at h;have YH:¬b=0/\¬b=1/\¬b=2/\¬b < 8:=by omega
    have Qj:¬a=0/\¬a=1:=by omega
    unfold nE;rw[if_neg YH.1,if_neg YH.2.1,if_neg YH.2.2.1,if_neg YH.2.2.2,if_neg Qj.1,if_neg Qj.2,if_neg h2];by_cases h4:a < 8
    ·rw[if_pos h4]at h ⊢;simp at h;omega
    ·rw[if_neg h4]at h ⊢;have hle:=Wp ok (by omega) h;omega
theorem lM (cs:List dR) (a:Int):ju cs a a=true:=by simp[ju]
theorem HK (p:Option Addr) (n c:Nat) (cs:List dR) (a b:Int) (h:Heap) (hcs:fo h (.slice p n c) cs) (ok:cj cs) (ha:0<=a/\a < 8+(cs.length:Int)) (U:0<=b/\b < 8+(cs.length:Int)) :
  bI prog 226 [.slice p n c,.int .i64 a,.int .i64 b] h λv h'=>h'=h/\∃ r,v=.int .i64 r/\kV cs a r:=by
 have h1:=vG p n c cs a b h hcs ok ha.2 U.2;have h2:=vG p n c cs b a h hcs ok U.2 ha.2;have hc:=ok.2.1;have LD:=ok.1;refine bS au func226 VD VE rfl ?_;conv=>whnf
 refine ay h1 ?_;conv=>whnf
 apply dS<;>intro g1;all_goals conv=>whnf
 ·have hr:=Nn ok ha U g1;refine⟨rfl,b,rfl,U,hr.1,λhn=>hr.2 (λe=>?_)⟩;rw[e,lM]at hn;cases hn
 refine ay h2 ?_;conv=>whnf
 apply dS<;>intro g2;all_goals conv=>whnf
 ·exact⟨rfl,a,rfl,ha,Nat.le_refl _,λhn=>by rw[lM]at hn;cases hn⟩
 have zero:kV cs a 0:=by
  refine⟨⟨by omega,by omega⟩,by simp[nE],λhn=>?_⟩;have ha0:¬a=0:=λe=>by rw[e,lM]at hn;cases hn
  unfold nE;rw[if_pos rfl,if_neg ha0];split
  ·omega
  ·split
   ·omega
   ·split<;>omega
 refine ay (tY _ _) ?_;conv=>whnf
 apply aV<;>intro g3;all_goals conv=>whnf
 ·exact⟨rfl,0,rfl,zero⟩
 refine ay (tY _ _) ?_;conv=>whnf
 apply aV<;>intro g4;all_goals conv=>whnf
 ·exact⟨rfl,0,rfl,zero⟩
 have eX:b≠2:=λe=>by
  subst e;have:ju cs 2 a=true:=by
   unfold ju;by_cases hx:2=a\/a=0
   ·rw[if_pos hx]
   ·rw[if_neg hx,if_pos rfl];simp;omega
  rw[this]at g2;cases g2
 have Qj:a≠2:=λe=>by
  subst e;have:ju cs 2 b=true:=by
   unfold ju;by_cases hx:2=b\/b=0
   ·rw[if_pos hx]
   ·rw[if_neg hx,if_pos rfl];simp;omega
  rw[this]at g1;cases g1
 have eight:a < 8\/b < 8->kV cs a 8:=λhx=>by
  refine⟨⟨by omega,by omega⟩,?_,λhn=>?_⟩
  ·unfold nE;have:¬a=0/\¬a=1/\¬a=2:=by omega
   rw[if_neg this.1,if_neg this.2.1,if_neg this.2.2];simp;split<;>omega
  ·have ha8:a≠8:=λe=>by rw[e,lM]at hn;cases hn
   unfold nE;have:¬a=0/\¬a=1/\¬a=2:=by omega
   rw[if_neg this.1,if_neg this.2.1,if_neg this.2.2];simp;split<;>omega
 apply ax<;>intro g5;all_goals conv=>whnf
 ·exact⟨rfl,8,rfl,eight (.inl g5)⟩
 apply ax<;>intro g6;all_goals conv=>whnf
 ·exact⟨rfl,8,rfl,eight (.inr g6)⟩
 refine aj ?_;conv=>whnf
 refine aj ?_;conv=>whnf
 refine aD (KE p n c cs (a-8) (b-8) h hcs ok (by omega) (by omega)) (λv h3 hh=>?_);have e3:=hh.1;subst e3;refine hh.2.elim λj hj=>?_;have hv:=hj.1;subst hv;have Yn:=hj.2.1;have hj2:=hj.2.2;conv=>whnf
 refine aj ?_;conv=>whnf
 refine⟨rfl,8+j,rfl,⟨by omega,by omega⟩,?_,λhn=>?_⟩
 ·unfold nE;have:¬a=0/\¬a=1/\¬a=2/\¬a < 8/\¬8+j=0/\¬8+j=1/\¬8+j=2/\¬8+j < 8:=by omega
  rw[if_neg this.1,if_neg this.2.1,if_neg this.2.2.1,if_neg this.2.2.2.1,if_neg this.2.2.2.2.1,if_neg this.2.2.2.2.2.1,if_neg this.2.2.2.2.2.2.1,if_neg this.2.2.2.2.2.2.2];omega
 ·have R6:8+j≠a:=λe=>by rw[e,lM]at hn;cases hn
  unfold nE;have:¬a=0/\¬a=1/\¬a=2/\¬a < 8/\¬8+j=0/\¬8+j=1/\¬8+j=2/\¬8+j < 8:=by omega
  rw[if_neg this.1,if_neg this.2.1,if_neg this.2.2.1,if_neg this.2.2.2.1,if_neg this.2.2.2.2.1,if_neg this.2.2.2.2.2.1,if_neg this.2.2.2.2.2.2.1,if_neg this.2.2.2.2.2.2.2];omega
theorem sB.HL {h h':Heap} {p:Option Addr} {n c:Nat} {l1 l2:List Int} {B1 B2:List Nat} {v2:Value} (s:sB h h' (.slice p n c) l1 B1 v2 l2 B2) {i:Nat} (hi:i < l1.length) :
  ∃ b,p=some ⟨b,0,none⟩/\rd h' b (0+i*1)=some (.int .i64 l1[i])/\∀(x:Int) (K:Heap->Prop),(∀ h2,sB h h2 (.slice p n c) (l1.set i x) B1 v2 l2 B2->K h2)->St h' b (0+i*1) [.int .i64 x] K:=by
 have sO:l1=l1.take i++l1[i]::l1.drop (i+1):=by simp
 have Q4:cn 1 h' (.slice p n c) ((l1.take i).map bO++bO l1[i]::(l1.drop (i+1)).map bO) B1:=by
  have:=s.o1;unfold dV at this;rw[show l1.map bO=(l1.take i).map bO++bO l1[i]::(l1.drop (i+1)).map bO by rw[<-List.map_cons,<-List.map_append,<-sO]]at this;exact this
 obtain⟨bl,cl,pre,post,tl,hq,uo,fV,_,hB,eF⟩:=Q4.at;simp only[Value.slice.injEq]at hq;obtain⟨rfl,hn,rfl⟩:=hq;have kB:pre.length=i:=by rw[fV];simp;omega
 have hdn:bl ∉ B2:=λhx=>by
  have:=s.nd bl;have:=List.count_pos_iff.2 hx;simp only[hB,List.count_append,List.count_cons,List.count_nil,beq_self_eq_true,if_true]at *;omega
 refine⟨bl,rfl,bG uo (i:=0) (by omega) rfl,λx K hk=>?_⟩;refine z7 uo (pre++bO x++post) (by simp[kB,bO]<;>omega) (mg (x':=bO x) (by omega) rfl) (λh5 e5 g5=>hk h5 ⟨?_,?_,?_,s.nd,s.fr⟩)
 ·rw[e5];exact Heap.aM s.le (s.fr bl (by rw[hB];simp))
 ·have:=eF h5 (bO x) g5 rfl;unfold dV;rw[show(l1.set i x).map bO=(l1.take i).map bO++bO x::(l1.drop (i+1)).map bO by rw[List.set_eq_take_append_cons_drop,if_pos hi,List.map_append,List.map_cons]];rw[hB]at this ⊢;exact this
 ·exact s.o2.aG λb U o ho=>by
   have:b≠bl:=by rintro rfl;exact hdn U
   rw[e5];simp only[Heap.set,this,if_false];exact ho
theorem sB.W1 {h h':Heap} {p:Option Addr} {n c:Nat} {l1 l2:List Int} {B1 B2:List Nat} {v1:Value} (s:sB h h' v1 l1 B1 (.slice p n c) l2 B2) {i:Nat} (hi:i < l2.length) :
  ∃ b,p=some ⟨b,0,none⟩/\rd h' b (0+i*1)=some (.int .i64 l2[i])/\∀(x:Int) (K:Heap->Prop),(∀ h2,sB h h2 v1 l1 B1 (.slice p n c) (l2.set i x) B2->K h2)->St h' b (0+i*1) [.int .i64 x] K:=by
 obtain⟨b,e,r,k⟩:=s.swap.HL hi;exact⟨b,e,r,λx K hk=>k x K (λh2 s2=>hk h2 s2.swap)⟩
theorem Gp {K:Value->Heap->Prop} {E:List PanicEntry->Heap->Prop} {p:Option Addr} {n c:Nat} {cs:List dR} {a b:Int} {h:Heap} (hcs:fo h (.slice p n c) cs) (ok:cj cs) (ha:0<=a/\a < 8+(cs.length:Int)) (U:0<=b/\b < 8+(cs.length:Int)) (hK:∀ r,kV cs a r->K (.int .i64 r) h):jA prog 226 [.slice p n c,.int .i64 a,.int .i64 b] h K E :=
 cE (HK p n c cs a b h hcs ok ha U) (λv h' hh=>by
  obtain⟨rfl,r,rfl,hr⟩:=hh;exact⟨Heap.le_refl _,hK r hr⟩)
def OU (cs:List dR) (a r:dH):Prop:=r=mO\/(r.told=a.told/\r.locals.length=a.locals.length/\r.stack.length=a.stack.length/\(∀ i (h1:i < a.locals.length) (h2:i < r.locals.length),kV cs a.locals[i] r.locals[i])/\∀ i (h1:i < a.stack.length) (h2:i < r.stack.length),kV cs a.stack[i] r.stack[i])
def zE (h:Heap) (v:Value) (r:dH):Prop:=∃ p1 c1 p2 c2,v=.agg #[.bool r.told,.slice p1 r.locals.length c1,.slice p2 r.stack.length c2]/\si h r p1 p2 c1 c2
theorem KF {h h':Heap} {v:Value} (hh:h.le h'/\∃ b1 b2,v=.agg #[.bool false,.slice (some ⟨b1,0,none⟩) 0 0,.slice (some ⟨b2,0,none⟩) 0 0]):h.le h'/\zE h' v mO:=by
 obtain⟨hl,b1,b2,rfl⟩:=hh;exact⟨hl,_,_,_,_,rfl,hY _ _ _,hY _ _ _⟩
theorem kV.refl {cs:List dR} {a:Int} (ha:0<=a/\a < 8+(cs.length:Int)):kV cs a a:=⟨ha,Nat.le_refl _,λhn=>by rw[lM]at hn;cases hn⟩
theorem HM (p:Option Addr) (n c:Nat) (cs:List dR) (s r:dH) (lp kp mp jp:Option Addr) (lc kc mc jc:Nat) (h:Heap) (hcs:fo h (.slice p n c) cs) (ok:cj cs) (hI:si h s lp kp lc kc) (hJ:si h r mp jp mc jc) (hl:s.locals.length<=r.locals.length) (gI:s.locals.length<=1000) (eX:s.stack.length<=1000)
  (jW:∀ t∈s.locals,0<=t/\t < 8+(cs.length:Int)) (zl:∀ t∈s.stack,0<=t/\t < 8+(cs.length:Int)) (s9:∀ t∈r.locals,0<=t/\t < 8+(cs.length:Int)) (Q6:∀ t∈r.stack,0<=t/\t < 8+(cs.length:Int)) :
  bI prog 223 [.slice p n c,.agg #[.bool s.told,.slice lp s.locals.length lc,.slice kp s.stack.length kc],.agg #[.bool r.told,.slice mp r.locals.length mc,.slice jp r.stack.length jc]] h λv h'=>h.le h'/\∃ x,zE h' v x/\OU cs s x:=by
 have qK:=vS s.told lp kp lc kc s.locals s.stack h hI.1 hI.2 (by omega) (by omega);have zm:=ok.2.1;have W2:∀ {t:Int},0<=t->t < 8+(cs.length:Int)->cL t:=λh0 h1=>by unfold cL;omega
 refine bS au func223 Vz VA rfl ?_;conv=>whnf
 refine aD qK (λv h1 hh=>?_);refine hh.elim λq1 hh=>hh.elim λe1 hh=>hh.elim λq2 hh=>hh.elim λe2 hh=>hh.elim λB1 hh=>hh.elim λB2 hh=>?_;have hv:=hh.1;subst hv;have st:=hh.2;conv=>whnf
 apply aV<;>intro g;all_goals conv=>whnf
 ·refine aD (jX h1) (λv h2 hh=>?_);have hn:=KF hh;refine hh.2.elim λb1 U=>U.elim λb2 U=>?_;subst U;conv=>whnf
  exact⟨Heap.le_trans st.le hn.1,mO,hn.2,.inl rfl⟩
 have hk:s.stack.length=r.stack.length:=by omega
 refine fm [0,4,5,6,7,8] [4,5,6,7] (λx:Nat × Heap × List Int=>x.1<=s.locals.length/\x.2.2.length=s.locals.length/\sB h x.2.1 (.slice q1 s.locals.length e1) x.2.2 B1 (.slice q2 s.stack.length e2) s.stack B2/\∀ j (h1:j < s.locals.length) (h2:j < x.2.2.length),kV cs s.locals[j] x.2.2[j]) (λx=>s.locals.length-x.1)
  (λx=>([.v (.slice p n c),.l 4 0,.l 5 0,.l 6 0,.l 7 0,.v (.int .i64 x.1)],[some [.bool s.told,.slice lp s.locals.length lc,.slice kp s.stack.length kc],some [.bool r.told,.slice mp r.locals.length mc,.slice jp r.stack.length jc],some [.bool false,.slice none 0 0,.slice none 0 0],some [.bool s.told,.slice q1 s.locals.length e1,.slice q2 s.stack.length e2]],x.2.1))
  (0,h1,s.locals) ⟨by omega,rfl,st,λj h1 h2=>kV.refl (jW _ (List.getElem_mem h1))⟩ rfl ?_
 rintro⟨i,h2,ll⟩ ⟨hi,sO,Q7,hg⟩;simp only at hi sO Q7 hg ⊢;conv=>whnf
 apply ax<;>intro g2;all_goals conv=>whnf
 ·have cG:i < s.locals.length:=by omega
  have vC:i < r.locals.length:=by omega
  obtain⟨b1,o1,w1,a1⟩:=(hI.1.le Q7.le).at cG;obtain⟨b2,o2,w2,a2⟩:=(hJ.1.le Q7.le).at vC;obtain⟨b3,w3,_,put⟩:=Q7.HL (i:=i) (by omega);have Q8:=hcs.le Q7.le (λ_ _ hx=>hx.le Q7.le);repeat' ((first|exact trivial|apply And.intro|refine aq ?_|refine aO w1 ?_|refine aO w2 ?_|refine aO w3 ?_|refine ld a1 ?_|refine ld a2 ?_|refine Gp Q8 ok (jW _ (List.getElem_mem cG)) (s9 _ (List.getElem_mem vC)) (λx hx=>?_))<;>conv=>whnf)
  all_goals
   refine put x _ (λh3 KG=>?_);conv=>whnf
   refine aj ?_;conv=>whnf
   refine dm (i+1,h3,ll.set i x) ⟨by simp only;omega,by simpa using sO,KG,λj h1 h2=>?_⟩ (by simp only;omega) rfl;simp only;rw[List.getElem_set];split
   ·rename_i e;subst e;exact hx
   ·exact hg j h1 (by simpa using h2)
 ·have nV:i=s.locals.length:=by omega
  subst nV;refine fm [0,4,5,6,7,9] [4,5,6,7] (λx:Nat × Heap × List Int=>x.1<=s.stack.length/\x.2.2.length=s.stack.length/\sB h x.2.1 (.slice q1 s.locals.length e1) ll B1 (.slice q2 s.stack.length e2) x.2.2 B2/\∀ j (h1:j < s.stack.length) (h2:j < x.2.2.length),kV cs s.stack[j] x.2.2[j]) (λx=>s.stack.length-x.1)
   (λx=>([.v (.slice p n c),.l 4 0,.l 5 0,.l 6 0,.l 7 0,.v (.int .i64 x.1)],[some [.bool s.told,.slice lp s.locals.length lc,.slice kp s.stack.length kc],some [.bool r.told,.slice mp r.locals.length mc,.slice jp r.stack.length jc],some [.bool false,.slice none 0 0,.slice none 0 0],some [.bool s.told,.slice q1 s.locals.length e1,.slice q2 s.stack.length e2]],x.2.1))
   (0,h2,s.stack) ⟨by omega,rfl,Q7,λj h1 h2=>kV.refl (zl _ (List.getElem_mem h1))⟩ rfl ?_
  rintro⟨i,h3,kl⟩ ⟨hi,OT,KG,YI⟩;simp only at hi OT KG YI ⊢;conv=>whnf
  apply ax<;>intro g2;all_goals conv=>whnf
  ·have cG:i < s.stack.length:=by omega
   have vC:i < r.stack.length:=by omega
   obtain⟨b1,o1,w1,a1⟩:=(hI.2.le KG.le).at cG;obtain⟨b2,o2,w2,a2⟩:=(hJ.2.le KG.le).at vC;obtain⟨b3,w3,_,put⟩:=KG.W1 (i:=i) (by omega);have Q8:=hcs.le KG.le (λ_ _ hx=>hx.le KG.le);repeat' ((first|exact trivial|apply And.intro|refine aq ?_|refine aO w1 ?_|refine aO w2 ?_|refine aO w3 ?_|refine ld a1 ?_|refine ld a2 ?_|refine Gp Q8 ok (zl _ (List.getElem_mem cG)) (Q6 _ (List.getElem_mem vC)) (λx hx=>?_))<;>conv=>whnf)
   all_goals
    refine put x _ (λh4 st4=>?_);have aa2:∀ j (h1:j < s.stack.length) (h2:j < (kl.set i x).length),kV cs s.stack[j] (kl.set i x)[j]:=λj h1 h2=>by
     rw[List.getElem_set];split
     ·rename_i e;subst e;exact hx
     ·exact YI j h1 (by simpa using h2)
    have aa3:i < (kl.set i x).length:=by simp;omega
    refine(st4.W1 aa3).elim λb4 hp=>?_;have w4:=hp.1;have r4:=hp.2.1;conv=>whnf
    repeat' ((first|refine aO w4 ?_|refine ld r4 ?_|refine aq ?_|refine aj ?_|refine ptr ?_)<;>conv=>whnf)
    apply ax<;>intro g0;all_goals conv=>whnf
    ·refine aD (jX h4) (λv h5 hh=>?_);have hn:=KF hh;refine hh.2.elim λb1 U=>U.elim λb2 U=>?_;subst U;conv=>whnf
     exact⟨Heap.le_trans st4.le hn.1,mO,hn.2,.inl rfl⟩
    ·refine aj ?_;conv=>whnf
     exact dm (i+1,h4,kl.set i x) ⟨by simp only;omega,by simpa using OT,st4,aa2⟩ (by simp only;omega) rfl
  ·have nV:i=s.stack.length:=by omega
   subst nV;have il:∀ t∈ll,cL t:=λt ht=>by
    obtain⟨j,hj,rfl⟩:=List.mem_iff_getElem.1 ht;have:=(hg j (by omega) hj).1;exact W2 this.1 this.2
   have ik:∀ t∈kl,cL t:=λt ht=>by
    obtain⟨j,hj,rfl⟩:=List.mem_iff_getElem.1 ht;have:=(YI j (by omega) hj).1;exact W2 this.1 this.2
   have r1:=(eW KG.o1 (by omega) il).2;have r2:=(eW KG.o2 (by omega) ik).2;refine⟨KG.le,⟨s.told,ll,kl⟩,⟨q1,e1,q2,e2,?_,r1,r2⟩,.inr ⟨rfl,sO,OT,hg,YI⟩⟩;show _=Value.agg #[.bool s.told,.slice q1 ll.length e1,.slice q2 kl.length e2];rw[sO,OT]
structure Q9 (u:aU) (m:cB):Prop where
 head:eY u.J.length m
 len:1<=m.code.length/\m.code.length<=12
 code:∀ x∈m.code,eH u m x
 cat:nP u m
theorem tq {n:Nat} {m:cB} (h:eY n m) (hn:n<=5):∀ t∈bX m,0<=t/\t < 8+(n:Int):=by
 intro t ht;unfold bX at ht;rcases List.mem_append.1 ht with ht|ht
 ·split at ht
  ·rename_i hc;rw[List.mem_singleton.1 ht];rcases h.1 with h1|h1
   ·omega
   ·omega
  ·cases ht
 ·have:=gq (h.2.2.2.1 t ht);omega
theorem Fk (us ms:List Value) (m:cB) (n:Nat) (h:Heap) (hm:ee h ms m) (hH:eY n m) (hn:n<=5) :
  bI prog 185 [.agg ⟨ms⟩] h λv h'=>h.le h'/\∃ p c B,v=.slice p (bX m).length c/\dV h' (.slice p (bX m).length c) (bX m) B/\∀ b∈B,h b=none:=by
 obtain⟨p1,c1,p2,c2,p3,c3,p4,c4,rfl,k1,k2,k3,k4,k5,k6,k7,k8,d1,d2,d3,d4⟩:=hm.form;have Mg:=tq hH hn;have Qj:=hH.2.1;have ia:=tg k5;have BY:=vK (m:=m);refine bS au func185 Us Ut rfl ?_;conv=>whnf
 refine dI [] rfl (λb0 h1 uY e0 l1 g0=>?_);conv=>whnf
 apply ax<;>intro g;all_goals conv=>whnf
 ·have QK:m.cls < 6:=by
   rcases hH.1 with h1|h1
   ·omega
   ·omega
  refine aj ?_;conv=>whnf
  refine kC (l:=[]) (k:=[8+m.cls]) (dP g0) (by simpa using uY) l1 rfl (by simp) (λt ht=>by simp at ht;unfold cL;omega) (λq2 e2 h2 B2 l2 o2 r2 n2=>?_);conv=>whnf
  refine Du l2 k5 ?_;conv=>whnf
  have OV:([]++[8+m.cls])++m.args=bX m:=by unfold bX;rw[if_pos g];rfl
  refine kC (l:=[]++[8+m.cls]) o2 n2 l2 rfl (by simp;omega) (λt ht=>by
   rw[OV]at ht;have:=Mg t ht;unfold cL;omega) (λq3 e3 h3 B3 l3 o3 r3 n3=>?_)
  conv=>whnf
  have sG:([]++[8+m.cls]:List Int).length+m.args.length=(bX m).length:=by rw[<-OV];simp;omega
  rw[sG,OV]at o3;rw[OV];exact⟨l3,_,_,B3,rfl,o3,n3⟩
 ·refine Du l1 k5 ?_;conv=>whnf
  have OV:[]++m.args=bX m:=by unfold bX;rw[if_neg g]
  refine kC (l:=[]) (dP g0) (by simpa using uY) l1 rfl (by simp;omega) (λt ht=>ia t (by simpa using ht)) (λq3 e3 h3 B3 l3 o3 r3 n3=>?_);conv=>whnf
  have sG:([]:List Int).length+m.args.length=(bX m).length:=by rw[<-OV];simp
  rw[sG,OV]at o3;rw[OV];exact⟨l3,_,_,B3,rfl,o3,n3⟩
def jl (m:cB):dH:=⟨true,bX m++List.replicate (m.locals.toNat-(bX m).length) 0,[]⟩
theorem uK {n:Nat} {m:cB} (h:eY n m) (hn:n<=5):uJ n m.locals (jl m):=by
 have BY:=h.2.2.2.2.2;refine⟨by simp[jl];omega,λt ht=>?_,λt ht=>by simp[jl]at ht,by simp[jl]⟩;rcases List.mem_append.1 ht with ht|ht
 ·exact tq h hn t ht
 ·rw[List.eq_of_mem_replicate ht];omega
theorem tw (us ms:List Value) (m:cB) (n:Nat) (h:Heap) (hm:ee h ms m) (hH:eY n m) (hn:n<=5) :
  bI prog 158 [.agg ⟨ms⟩] h λv h'=>h.le h'/\zE h' v (jl m):=by
 have aa4:=Fk us ms m n h hm hH hn;obtain⟨p1,c1,p2,c2,p3,c3,p4,c4,rfl,k1,k2,k3,k4,k5,k6,k7,k8,d1,d2,d3,d4⟩:=hm.form;have Mg:=tq hH hn;have BY:=hH.2.2.2.2.2;have sG:=hH.2.2.2.2.1;refine bS au func158 TO TP rfl ?_;conv=>whnf
 refine aD aa4 (λv h1 hh=>?_);refine hh.2.elim λq1 hf=>hf.elim λe1 hf=>hf.elim λB1 hf=>?_;have hv:=hf.1;subst hv;have o1:=hf.2.1;have n1:=hf.2.2;have l1:=hh.1;conv=>whnf
 refine dI [] rfl (λb3 h3 rU ee3 l3 g3=>?_);have abT:b3 ∉ B1:=λhx=>by obtain⟨o,ho⟩:=o1.in b3 hx;rw[rU]at ho;cases ho
 conv=>whnf
 have e0:(bX m).length=(bX m++List.replicate 0 (0:Int)).length:=by simp
 refine fm [1,2,3] [1,2,3] (λx:Nat × Heap × Option Addr × Nat × List Nat=>((bX m).length:Int)+x.1<=m.locals/\h.le x.2.1/\dV x.2.1 (.slice x.2.2.1 ((bX m).length+x.1) x.2.2.2.1) (bX m++List.replicate x.1 0) x.2.2.2.2/\∀ b∈x.2.2.2.2,h b=none) (λx=>m.locals.toNat-((bX m).length+x.1))
  (λx=>([.l 1 0,.l 2 0,.l 3 0],[some [.int .i64 m.cls,.int .i64 m.eL,.slice p1 m.args.length c1,.int .i64 m.out,.int .i64 m.locals,.slice p2 m.code.length c2,.slice p3 m.aL.length c3,.slice p4 m.catches.length c4],some [.bool false,.slice none 0 0,.slice none 0 0],some [.bool true,.slice x.2.2.1 ((bX m).length+x.1) x.2.2.2.1,.slice (some ⟨b3,0,none⟩) 0 0]],x.2.1))
  (0,h3,q1,e1,B1) ⟨by simp;omega,Heap.le_trans l1 l3,by simpa using o1.aG (cC.of_le l3 _),n1⟩ rfl ?_
 rintro⟨j,h5,q5,e5,B5⟩ ⟨hj,l5,o5,n5⟩;simp only at hj l5 o5 n5 ⊢;conv=>whnf
 apply ax<;>intro g;all_goals conv=>whnf
 ·have sO:(bX m++List.replicate j (0:Int)).length=(bX m).length+j:=by simp
  refine kC (l:=bX m++List.replicate j 0) (k:=[0]) o5 n5 l5 rfl (by simp;omega) (λt ht=>by
   simp only[List.mem_append,List.mem_singleton]at ht;rcases ht with (ht|ht)|rfl
   ·have:=Mg t ht;unfold cL;omega
   ·rw[List.eq_of_mem_replicate ht];unfold cL;omega
   ·unfold cL;omega) (λq6 e6 h6 B6 l6 o6 r6 n6=>?_)
  have hsu:(bX m++List.replicate j (0:Int))++[0]=bX m++List.replicate (j+1) 0:=by rw[List.replicate_succ',List.append_assoc]
  have WY:((bX m++List.replicate j (0:Int))++[0]).length=(bX m).length+(j+1):=by simp<;>omega
  have hl7:(bX m++List.replicate j (0:Int)).length + [(0:Int)].length=(bX m).length+(j+1):=by simp<;>omega
  rw[hl7,hsu]at o6;rw[WY];conv=>whnf
  exact dm (j+1,h6,q6,e6,B6) ⟨by simp only;omega,l6,o6,n6⟩ (by simp only;omega) rfl
 ·have hje:j=m.locals.toNat-(bX m).length:=by omega
  have hs:(jl m).locals=bX m++List.replicate j 0:=by rw[hje];rfl
  have hl:(jl m).locals.length=(bX m).length+j:=by rw[hs];simp
  refine⟨l5,q5,e5,some ⟨b3,0,none⟩,0,?_,?_,hY _ _ _⟩
  ·rw[hl];rfl
  ·rw[hl];rw[<-hs]at o5;have:=(eW o5 (by rw[hl];omega) (λt ht=>by
    have:=(uK hH hn).fK t ht;unfold cL;omega)).2
   rw[hl]at this;exact this
def dJ (i:dX):Bool:=decide (8<=i.kind/\i.kind<=11)
def kW (i:dX):Bool:=decide (i.kind=11\/i.kind=22\/i.kind=23)
theorem jY (k a b:Int) (h:Heap):Pure prog 168 [.agg #[.int .i64 k,.int .i64 a,.int .i64 b]] h (.bool (dJ ⟨k,a,b⟩)):=by
 refine gN au func168 T6 T7 rfl ?_;conv=>whnf
 refine ay (er _ _ _ _) ?_;conv=>whnf
 exact⟨rfl,rfl⟩
theorem og (k a b:Int) (h:Heap):Pure prog 163 [.agg #[.int .i64 k,.int .i64 a,.int .i64 b]] h (.bool (kW ⟨k,a,b⟩)):=by
 have e:kW ⟨k,a,b⟩=decide (k=11\/k=22\/k=23):=rfl;rw[e];refine gN au func163 TY TZ rfl ?_;conv=>whnf
 apply ax<;>intro g;all_goals conv=>whnf
 ·exact⟨by simp[g],rfl⟩
 apply ax<;>intro g2;all_goals conv=>whnf
 ·exact⟨by simp[g2],rfl⟩
 ·exact⟨by simp[g,g2],rfl⟩
def eJ (c:Int) (s:dH):dH:=⟨true,s.locals,[8+c]⟩
theorem qL (lo hi to cls:Int) (s:dH) (lp kp:Option Addr) (lc kc:Nat) (h:Heap) (hI:si h s lp kp lc kc) (hl:s.locals.length<=1000) (hc:0<=cls/\cls<=100) :
  bI prog 191 [.agg #[.int .i64 lo,.int .i64 hi,.int .i64 to,.int .i64 cls],.agg #[.bool s.told,.slice lp s.locals.length lc,.slice kp s.stack.length kc]] h λv h'=>h.le h'/\zE h' v (eJ cls s):=by
 have i1:=tg hI.1;have st:=sB.start h;have Q5:=hI.1;have b1:s.locals.length<=1000000:=by omega
 have fin:∀ {h':Heap} {p1 c1 b B1 B2},sB h h' (.slice p1 s.locals.length c1) s.locals B1 (.slice (some ⟨b,0,none⟩) 1 1) [8+cls] B2->h.le h'/\zE h' (.agg #[.bool true,.slice p1 s.locals.length c1,.slice (some ⟨b,0,none⟩) 1 1]) (eJ cls s):=λst=>by
  have r1:=(eW st.o1 (by omega) i1).2;have r2:=(eW st.o2 (by simp) (λt ht=>by rw[List.mem_singleton.1 ht];unfold cL;omega)).2;exact⟨st.le,_,_,_,_,rfl,r1,r2⟩
 have Ky:∀ {h':Heap} {v1 l1 B1} {ty:TypeId} {vs:List Value} {K:Nat->Heap->Prop},sB h h' v1 l1 B1 (.slice none 0 0) [] []->vs=[.int .i64 (8+cls)]->(∀ b h2,sB h h2 v1 l1 B1 (.slice (some ⟨b,0,none⟩) 1 1) [8+cls] [b]->K b h2)->Ig h' vs ty K:=λ{h' v1 l1 B1 ty vs K} s hv hk=>by
  subst hv;refine dI [.int .i64 (8+cls)] rfl (λb h2 U e l g=>hk b h2 ⟨Heap.le_trans s.le l,s.o1.aG (cC.of_le l _),fR (vs:=[bO (8+cls)]) (t:=ty) (by simp[bO]) rfl (by rw[g];rfl),?_,λx hx=>?_⟩)
  ·exact Nd.two s.o1.nd (λa=>by simp only[List.count_cons,List.count_nil];split<;>omega) (λx hx hm=>by
    rw[List.mem_singleton.1 hx]at hm;obtain⟨o,ho⟩:=s.o1.in b hm;rw[U]at ho;cases ho)
  ·rcases List.mem_append.1 hx with hx|hx
   ·exact s.fr x (by simp[hx])
   ·rw[List.mem_singleton.1 hx];exact fu s.le U
 refine bS au func191 UC UD rfl ?_;conv=>whnf
 repeat' ((first|exact trivial|exact fin st|apply And.intro|refine aj ?_|refine Du st.le Q5 ?_|refine st.Dv rfl b1 (λp' c' h9 B' st=>?_)|refine Ky st rfl (λb h9 st=>?_)|refine st.Ky rfl (λb h9 st=>?_))<;>conv=>whnf)
def aW (h:Heap) (b:Nat):Heap:=λx=>if x=b then none else h x
theorem gF (h:Heap) (b:Nat):(aW h b).le h:=λx o hx=>by
 unfold aW at hx;split at hx
 ·cases hx
 ·exact hx
theorem bT {h h':Heap} (b:Nat) (hl:h.le h'):(aW h b).le (aW h' b):=λx o hx=>by
 unfold aW at hx ⊢;split
 ·rename_i e;rw[if_pos e]at hx;cases hx
 ·rename_i e;rw[if_neg e]at hx;exact hl x o hx
theorem uL {h0 h:Heap} {b:Nat} (hl:h0.le h) (U:h0 b=none):h0.le (aW h b):=λx o hx=>by
 unfold aW;split
 ·rename_i e;rw[e,U]at hx;cases hx
 ·exact hl x o hx
theorem BC {h h':Heap} {b:Nat} (hl:(aW h b).le (aW h' b)) (U:h' b=h b):h.le h':=λx o hx=>by
 by_cases e:x=b
 ·rw[e]at hx ⊢;rw[U];exact hx
 ·have:=hl x o (by unfold aW;rw[if_neg e];exact hx);unfold aW at this;rwa [if_neg e]at this
theorem yO (h:Heap) (b:Nat) (o:Obj):aW (h.set b o) b=aW h b:=by
 funext x
 unfold aW;by_cases e:x=b
 ·rw[if_pos e,if_pos e]
 ·rw[if_neg e,if_neg e];simp[Heap.set,e]
theorem oh {P:Program} {f:FuncId} {args:List Value} {h:Heap} {b:Nat} {o:Obj} {R:Value->Heap->Prop} (U:h b=some o) (hc:bI P f args (aW h b) R) :
  bI P f args h λv h'=>h' b=h b/\R v (aW h' b):=by
 intro w hv;refine(hc w (λb' o' hx=>hv b' o' (gF h b b' o' hx))).mono ?_;rintro e w' ⟨h1,m,hm⟩;have hbw:=hv b o U;have iS:b < w.heap.size:=ey hbw;have Om:h1 b=none:=by
  cases hx:h1 b with
  | none=>rfl
  | some x =>
   rcases m.xd b (by rw[hx];simp)with h2|h2
   ·exact absurd (by simp[aW]) h2
   ·omega
 let h':Heap:=λx=>if x=b then h b else h1 x
 have hh:aW h' b=h1:=by
  funext x
  unfold aW;by_cases e:x=b
  ·rw[if_pos e,e,Om]
  ·rw[if_neg e];simp[h',e]
 have mv:cP h w h' w':=by
  refine⟨λx y hx=>?_,λx hx hn=>?_,λx hx=>?_,m.size,m.fz,m.out⟩
  ·by_cases e:x=b
   ·subst e;have hk:=m.aG x iS (by simp[aW]);simp only[h',if_true]at hx;rw[hk];exact hv x y hx
   ·simp only[h',e,if_false]at hx;exact m.view x y hx
  ·have W3:aW h b x=none:=by
    unfold aW;by_cases e:x=b
    ·rw[if_pos e]
    ·rw[if_neg e];exact hn
   exact m.aG x hx W3
  ·by_cases e:x=b
   ·subst e;left;rw[U];simp
   ·simp only[h',e,if_false]at hx;rcases m.xd x hx with h2|h2
    ·left;unfold aW at h2;rwa [if_neg e]at h2
    ·exact .inr h2
 refine⟨h',mv,?_⟩;cases e with
 | returned v=>exact⟨by simp[h'],by rw[hh];exact hm⟩
 | panicked c=>exact hm.elim
 | outgrown=>exact hm.elim
theorem kO {P:Program} {f:FuncId} {args:List Value} {h:Heap} {b:Nat} {o:Obj} {K:Value->Heap->Prop} {E:List PanicEntry->Heap->Prop} {R:Value->Heap->Prop} (U:h b=some o) (hc:bI P f args (aW h b) λv h'=>(aW h b).le h'/\R v h')
  (hk:∀ v h',h.le h'->R v (aW h' b)->K v h'):Go.Vc.Call P f args h K E:=aD (oh U hc) λv h' hh=>hk v h' (BC hh.2.1 hh.1) hh.2.2
theorem Gq {P:Program} {f:FuncId} {args:List Value} {h:Heap} {b:Nat} {o:Obj} {K:Value->Heap->Prop} {E:List PanicEntry->Heap->Prop} {R:Value->Heap->Prop} (U:h b=some o) (hc:bI P f args (aW h b) λv h'=>(aW h b).le h'/\R v h')
  (hk:∀ v h',h.le h'->R v (aW h' b)->K v h'):jA P f args h K E:=cE (oh U hc) λv h' hh=>⟨BC hh.2.1 hh.1,hk v h' (BC hh.2.1 hh.1) hh.2.2⟩
structure iB (h0 h:Heap) (b c:Nat) (A:List dH):Prop where
 le:h0.le h
 fr:h0 b=none
 row:∃ aP,cn 3 h (.slice (some ⟨b,0,none⟩) A.length c) aP [b]/\aP.length=A.length/\∀ i (h1:i < aP.length) (h2:i < A.length),lV (aW h b) aP[i] A[i]
theorem iB.hle {h0 h:Heap} {b c:Nat} {A:List dH} (a:iB h0 h b c A):h0.le (aW h b):=uL a.le a.fr
theorem iB.in {h0 h:Heap} {b c:Nat} {A:List dH} (a:iB h0 h b c A):∃ o,h b=some o:=by
 obtain⟨aP,ho,_⟩:=a.row;exact ho.in b (by simp)
theorem iB.aG {h0 h h':Heap} {b c:Nat} {A:List dH} (a:iB h0 h b c A) (hl:h.le h'):iB h0 h' b c A:=by
 obtain⟨aP,ho,hn,hr⟩:=a.row;exact⟨Heap.le_trans a.le hl,a.fr,aP,ho.aG (cC.of_le hl _),hn,λi h1 h2=>(hr i h1 h2).le (bT b hl)⟩
theorem iB.at {h0 h:Heap} {b c:Nat} {A:List dH} (a:iB h0 h b c A) {i:Nat} (hi:i < A.length) :
  ∃ p1 c1 p2 c2,eG h b (0+i*3) 3=some [.bool A[i].told,.slice p1 A[i].locals.length c1,.slice p2 A[i].stack.length c2]/\rd h b (0+i*3)=some (.bool A[i].told)/\si (aW h b) A[i] p1 p2 c1 c2 /\
   ∀(vs:List Value) (s:dH) (K:Heap->Prop),lV (aW h b) vs s->(∀ h2,aW h2 b=aW h b->iB h0 h2 b c (A.set i s)->K h2)->St h b (0+i*3) vs K:=by
 obtain⟨aP,ho,hn,hr⟩:=a.row;have vC:i < aP.length:=by omega
 have sO:aP=aP.take i++aP[i]::aP.drop (i+1):=by simp
 have EI:cn 3 h (.slice (some ⟨b,0,none⟩) A.length c) (aP.take i++aP[i]::aP.drop (i+1)) [b]:=by rw[<-sO];exact ho
 obtain⟨bl,cl,pre,post,tl,hq,uo,fV,Ra,hB,eF⟩:=EI.at;simp only[Value.slice.injEq,Option.some.injEq,Addr.mk.injEq]at hq;obtain⟨⟨rfl,_⟩,_,rfl⟩:=hq;have kB:pre.length=i*3:=by rw[fV];simp;omega
 obtain⟨l,k,hv,hl,hk⟩:=hr i vC hi;have f1:=hl.len;obtain⟨p1,c1,rfl,_,_⟩:=f1;have f2:=hk.len;obtain⟨p2,c2,rfl,_,_⟩:=f2;rw[hv]at uo;refine⟨p1,c1,p2,c2,?_,?_,⟨hl,hk⟩,λvs s K hs hK=>?_⟩
 ·rw[bP uo 3 (0+i*3) (by simp[kB])];rw[List.append_assoc,Nat.zero_add,<-kB,List.drop_left];rfl
 ·exact bG uo (i:=0) (by omega) rfl
 ·have DY:vs.length=3:=by obtain⟨_,_,rfl,_⟩:=hs;rfl
  refine z7 uo (pre++vs++post) (by simp[kB,DY]<;>omega) (mg (x':=vs) (by omega) (by rw[DY];rfl)) (λh5 e5 g5=>?_);have hh:aW h5 b=aW h b:=by rw[e5,yO]
  have Im:aP.set i vs=aP.take i++vs::aP.drop (i+1):=by rw[List.set_eq_take_append_cons_drop,if_pos vC]
  refine hK h5 hh ⟨?_,a.fr,aP.set i vs,?_,by simp[hn],λj h1 h2=>?_⟩
  ·rw[e5];exact Heap.aM a.le a.fr
  ·rw[Im,List.length_set];exact eF h5 vs g5 DY
  ·rw[hh];simp only[List.getElem_set];split
   ·exact hs
   ·exact hr j (by simpa using h1) (by simpa using h2)
theorem iB.yP {h0 h:Heap} {b c:Nat} {A:List dH} (a:iB h0 h b c A) (hl:A.length<=1000):Row 3 lV h (.slice (some ⟨b,0,none⟩) A.length c) A:=by
 obtain⟨aP,ho,hn,hr⟩:=a.row;obtain⟨hx,⟨he,_⟩|⟨b',c',rest,t,he,hc,U,_,_⟩⟩:=ho
 ·cases he
 simp only[Value.slice.injEq,Option.some.injEq,Addr.mk.injEq]at he;obtain⟨⟨rfl,_⟩,_,rfl⟩:=he;refine⟨by omega,_,_,rfl,by omega,.inr ⟨b,0,rfl,λi x hi=>?_⟩⟩;obtain⟨h2,rfl⟩:=List.getElem?_eq_some_iff.1 hi;obtain⟨p1,c1,p2,c2,e1,_,e3,_⟩:=a.at h2;exact⟨_,e1,_,_,rfl,cT.le (gF h b) e3.1,cT.le (gF h b) e3.2⟩
def yQ (l:List Int):Nat:=(l.map nE).sum
def qM (s:dH):Nat:=yQ s.locals+yQ s.stack
def KH (s:dH):Nat:=if s.told=true then qM s else 100
def mu (A:List dH):Nat:=(A.map KH).sum
def qN (n:Nat) (k:Int) (A:List dH):Prop:=∀ s∈A,s.told=true->uJ n k s
theorem KI:∀ {A:List dH} {i:Nat} (hi:i < A.length) (s:dH),mu (A.set i s)+KH A[i]=mu A+KH s
 | [],i,hi,s=>by simp at hi
 | x::A,0,hi,s=>by simp[mu];omega
 | x::A,i+1,hi,s=>by
  have:=KI (A:=A) (i:=i) (by simpa using hi) s;simp only[mu,List.set_cons_succ,List.map_cons,List.sum_cons,List.getElem_cons_succ]at this ⊢;omega
theorem uM {n:Nat} {k:Int} {A:List dH} (hA:qN n k A) (i:Nat) {s:dH} (hs:s.told=true->uJ n k s):qN n k (A.set i s):=λx hx ht=>by
 rcases List.mem_or_eq_of_mem_set hx with h|rfl
 ·exact hA x h ht
 ·exact hs ht
theorem No {n:Nat} (hn:n<=5) {t:Int} (h:0<=t/\t < 8+(n:Int)):nE t<=10:=by
 unfold nE;split
 ·omega
 ·split
  ·omega
  ·split
   ·omega
   ·split<;>omega
theorem BD {n:Nat} (hn:n<=5):∀ {l:List Int},(∀ t∈l,0<=t/\t < 8+(n:Int))->yQ l<=l.length*10
 | [],_=>by simp[yQ]
 | t::l,h=>by
  have h1:=No hn (h t (by simp));have h2:=BD hn (l:=l) (λx hx=>h x (by simp[hx]));simp only[yQ,List.map_cons,List.sum_cons,List.length_cons]at h2 ⊢;omega
theorem KJ {n:Nat} (hn:n<=5) {k:Int} (hk:k<=3) {s:dH} (hs:uJ n k s):qM s < 100:=by
 have h1:=BD hn hs.fK;have h2:=BD hn hs.cA;have:=hs.loc;have:=hs.len;unfold qM;omega
theorem yR {cs:List dR}:∀ {l r:List Int},l.length=r.length->(∀ i (h1:i < l.length) (h2:i < r.length),kV cs l[i] r[i])->yQ r<=yQ l/\(iF cs r l=false->yQ r < yQ l)
 | [],[],_,_=>by simp[yQ,iF]
 | [],_::_,h,_=>by simp at h
 | _::_,[],h,_=>by simp at h
 | a::l,b::r,h,hm=>by
  have h0:=hm 0 (by simp) (by simp);simp only[List.getElem_cons_zero]at h0;have ih:=yR (cs:=cs) (l:=l) (r:=r) (by simpa using h) (λi h1 h2=>hm (i+1) (by simpa using h1) (by simpa using h2));simp only[yQ,List.map_cons,List.sum_cons,iF]at ih ⊢;refine⟨by have:=h0.2.1;omega,λhf=>?_⟩;cases ht:ju cs b a with
  | false=>have:=h0.2.2 ht;omega
  | true=>rw[ht,Bool.true_and]at hf;have:=ih.2 hf;have:=h0.2.1;omega
theorem Np {cs:List dR} {a x:dH} {k:Int} (hs:uJ cs.length k a) (hj:x.told=a.told/\x.locals.length=a.locals.length/\x.stack.length=a.stack.length/\(∀ i (h1:i < a.locals.length) (h2:i < x.locals.length),kV cs a.locals[i] x.locals[i])/\∀ i (h1:i < a.stack.length) (h2:i < x.stack.length),kV cs a.stack[i] x.stack[i]) :
  uJ cs.length k x/\(Cb cs x a=false->qM x < qM a):=by
 obtain⟨_,e1,e2,m1,m2⟩:=hj;have s1:=yR e1.symm m1;have s2:=yR e2.symm m2;refine⟨⟨by rw[e1];exact hs.loc,λt ht=>?_,λt ht=>?_,by rw[e2];exact hs.len⟩,λhf=>?_⟩
 ·obtain⟨i,hi,rfl⟩:=List.mem_iff_getElem.1 ht;exact(m1 i (by omega) hi).1
 ·obtain⟨i,hi,rfl⟩:=List.mem_iff_getElem.1 ht;exact(m2 i (by omega) hi).1
 ·unfold Cb at hf;rw[decide_eq_true e2,Bool.true_and]at hf;unfold qM;cases h1:iF cs x.locals a.locals with
  | false=>have:=s1.2 h1;omega
  | true=>rw[h1,Bool.true_and]at hf;have:=s2.2 hf;omega
theorem yS (s:dH) (lp kp:Option Addr) (lc kc:Nat) (h:Heap) (hI:si h s lp kp lc kc) (b1:s.locals.length<=1000000) (b2:s.stack.length<=1000000) :
  bI prog 160 [.agg #[.bool s.told,.slice lp s.locals.length lc,.slice kp s.stack.length kc]] h λv h'=>h.le h'/\zE h' v s :=
 bI.mono (vS s.told lp kp lc kc s.locals s.stack h hI.1 hI.2 b1 b2) λv h' hh=>by
  obtain⟨p1,c1,p2,c2,B1,B2,rfl,st⟩:=hh;exact⟨st.le,p1,c1,p2,c2,rfl,(eW st.o1 (by omega) (tg hI.1)).2,(eW st.o2 (by omega) (tg hI.2)).2⟩
theorem zE.of {h:Heap} {p1 p2:Option Addr} {c1 c2:Nat} {s:dH} (hI:si h s p1 p2 c1 c2):lV h [.bool s.told,.slice p1 s.locals.length c1,.slice p2 s.stack.length c2] s:=⟨_,_,rfl,hI.1,hI.2⟩
theorem Fl (us:List Value) (u:aU) (k:Int) (h0 h:Heap) (b c:Nat) (A:List dH) (at_:Int) (s:dH) (lp kp:Option Addr) (lc kc:Nat) (hu:dL h0 us u) (ok:cj u.J) (hk:k<=3) (a:iB h0 h b c A) (hV:qN u.J.length k A) (m4:0<=at_/\at_ < A.length) (W4:A.length<=1000) (hs:uJ u.J.length k s) (ht:s.told=true) (hI:si (aW h b) s lp kp lc kc) :
  bI prog 214 [.agg ⟨us⟩,.slice (some ⟨b,0,none⟩) A.length c,.int .i64 at_,.agg #[.bool s.told,.slice lp s.locals.length lc,.slice kp s.stack.length kc]] h
   λv h'=>(aW h b).le (aW h' b)/\∃ ch A',v=.bool ch/\iB h0 h' b c A'/\qN u.J.length k A'/\A'.length=A.length/\mu A'<=mu A/\(ch=true->mu A' < mu A):=by
 obtain⟨p,cc,q,d,rfl,hcs,fM,jN,hl2⟩:=hu.form;have aa5:fo (aW h b) (.slice p u.J.length cc) u.J:=hcs.le a.hle (λ_ _ hx=>hx.le a.hle);have zm:=ok.2.1;obtain⟨o,mS⟩:=a.in;have hi:at_.toNat < A.length:=by omega
 have Im:=hs.loc;have abU:=hs.len;have qK:=yS s lp kp lc kc (aW h b) hI (by omega) (by omega);obtain⟨p1,c1,p2,c2,e1,e2,e3,put⟩:=a.at hi;have dy:=List.getElem_mem hi;have jO:=λx=>KI hi x;have YJ:=hV _ dy;have same:∀ h',h.le h'->(aW h b).le (aW h' b)/\∃ ch A',Value.bool false=.bool ch/\iB h0 h' b c A'/\qN u.J.length k A'/\A'.length=A.length/\mu A'<=mu A/\(ch=true->mu A' < mu A):=λh' hl=>⟨bT b hl,false,A,rfl,a.aG hl,hV,rfl,Nat.le_refl _,λhx=>by cases hx⟩
 refine bS au func214 Vg Vh rfl ?_;conv=>whnf
 refine aq ?_;conv=>whnf
 refine ptr ?_;conv=>whnf
 refine ld e2 ?_;conv=>whnf
 apply bY<;>intro g;all_goals conv=>whnf
 ·refine kO mS qK (λv h1 l1 hr=>?_);refine hr.elim λq1 hr=>hr.elim λd1 hr=>hr.elim λq2 hr=>hr.elim λd2 hr=>?_;have hv:=hr.1;subst hv;have r1:=hr.2;have a1:=a.aG l1;refine(a1.at hi).elim λ_ hp=>hp.elim λ_ hp=>hp.elim λ_ hp=>hp.elim λ_ hp=>?_;have HL:=hp.2.2.2;conv=>whnf
  repeat' ((first|refine aq ?_|refine aj ?_|refine ptr ?_)<;>conv=>whnf)
  refine HL _ s _ (zE.of r1) (λh2 hh a2=>?_);conv=>whnf
  have hm:=jO s;have iS:=KJ zm hk hs;have e1:KH s=qM s:=by unfold KH;rw[if_pos ht]
  have e2:KH A[at_.toNat]=100:=by unfold KH;rw[if_neg (by rw[g];simp)]
  refine⟨by rw[hh];exact bT b l1,true,A.set at_.toNat s,rfl,a2,uM hV _ (λ_=>hs),by simp,by omega,λ_=>by omega⟩
 ·have hA:=YJ g;have W5:=HM p u.J.length cc u.J A[at_.toNat] s p1 p2 lp kp c1 c2 lc kc (aW h b) aa5 ok e3 hI (by have:=hA.loc;omega) (by have:=hA.loc;omega) (by have:=hA.len;omega) hA.fK hA.cA hs.fK hs.cA;have rest:∀(h1:Heap) (x:dH) (q1 q2:Option Addr) (d1 d2:Nat),h.le h1->si (aW h1 b) x q1 q2 d1 d2->OU u.J A[at_.toNat] x->x.told=true->uJ u.J.length k x/\Pure prog 159 [.slice p u.J.length cc,.agg #[.bool x.told,.slice q1 x.locals.length d1,.slice q2 x.stack.length d2],.agg #[.bool A[at_.toNat].told,.slice p1 A[at_.toNat].locals.length c1,.slice p2 A[at_.toNat].stack.length c2]] h1 (.bool (Cb u.J x A[at_.toNat]))/\(Cb u.J x A[at_.toNat]=false->qM x < qM A[at_.toNat]):=λh1 x q1 q2 d1 d2 l1 hx hj htx=>by
   rcases hj with rfl|hj
   ·cases htx
   have jm:=Np hA hj;have hX:=jm.1;exact⟨hX,BB p u.J.length cc u.J x A[at_.toNat] q1 q2 p1 p2 d1 d2 c1 c2 h1 (hcs.le (Heap.le_trans a.le l1) (λ_ _ hx=>hx.le (Heap.le_trans a.le l1))) ok (hx.le (gF h1 b)) (e3.le (Heap.le_trans (gF h b) l1)) (by omega) (λt ht=>(hX.fK t ht).2) (λt ht=>(hX.cA t ht).2) (λt ht=>(hA.fK t ht).2) (λt ht=>(hA.cA t ht).2),jm.2⟩
  repeat' ((first|exact trivial|apply And.intro|refine aq ?_|refine ptr ?_|refine dK e1 ?_|refine Gq mS W5 (λv h1 l1 hr=>?_))<;>conv=>whnf)
  all_goals
   refine hr.elim λx hr=>?_;have hj:=hr.2;refine hr.1.elim λq1 hr=>hr.elim λd1 hr=>hr.elim λq2 hr=>hr.elim λd2 hr=>?_;have hv:=hr.1;subst hv;have r1:=hr.2;have a1:=a.aG l1;have rst:=rest h1 x q1 q2 d1 d2 l1 r1 hj;have Ca:=jO x;refine(a1.at hi).elim λ_ hp=>hp.elim λ_ hp=>hp.elim λ_ hp=>hp.elim λ_ hp=>?_;have HL:=hp.2.2.2;have e4:eG h1 b (0+at_.toNat*3) 3=_:=iI l1 _ _ _ e1;conv=>whnf
   generalize LV:x.told=xt at rst r1 ⊢;cases xt
   ·conv=>whnf
    repeat' ((first|exact trivial|exact same _ l1|apply And.intro)<;>conv=>whnf)
   ·have rs:=rst rfl;have hX:=rs.1;have fI:=rs.2.1;have iS:=rs.2.2;generalize hvb:Cb u.J x A[at_.toNat]=vb at fI iS;have fin:∀ h2,aW h2 b=aW h1 b->iB h0 h2 b c (A.set at_.toNat x)->vb=false->(aW h b).le (aW h2 b)/\∃ ch A',Value.bool true=.bool ch/\iB h0 h2 b c A'/\qN u.J.length k A'/\A'.length=A.length/\mu A'<=mu A/\(ch=true->mu A' < mu A):=λh2 hh a2 hf=>by
     have e1:KH x=qM x:=by unfold KH;rw[if_pos LV]
     have e2:KH A[at_.toNat]=qM A[at_.toNat]:=by unfold KH;rw[if_pos g]
     have:=iS hf;exact⟨by rw[hh];exact bT b l1,true,A.set at_.toNat x,rfl,a2,uM hV _ (λ_=>hX),by simp,by omega,λ_=>by omega⟩
    conv=>whnf
    repeat' ((first|exact trivial|apply And.intro|refine aq ?_|refine ptr ?_|refine dK e4 ?_|refine aT fI ?_)<;>conv=>whnf)
    all_goals
     cases vb
     ·conv=>whnf
      refine aq ?_;conv=>whnf
      refine ptr ?_;conv=>whnf
      refine HL _ x _ (LV ▸ zE.of r1) (λh2 hh a2=>?_);conv=>whnf
      exact fin h2 hh a2 rfl
     ·conv=>whnf
      exact same _ l1
def eu (n:Nat) (k:Int) (s:dH) (r:Option dH):Prop:=∀ x,r=some x->uJ n k x/\x.told=s.told
theorem eu.none {n:Nat} {k:Int} {s:dH}:eu n k s none:=λ_ h=>by cases h
theorem eu.self {n:Nat} {k:Int} {s:dH} (hs:uJ n k s):eu n k s (some s):=λx h=>by cases h;exact⟨hs,rfl⟩
theorem eu.pop {n:Nat} {k:Int} {s:dH} (hs:uJ n k s) (cs:List dR) (l:List Int):eu n k s (gM cs s l):=λx h=>by
 unfold gM at h;split at h
 ·cases h
  exact⟨⟨hs.loc,hs.fK,λt ht=>hs.cA t (List.mem_of_mem_take ht),by have:=hs.len;simp;omega⟩,rfl⟩
 ·cases h
theorem eu.push {n:Nat} {k:Int} {s:dH} {r:Option dH} (hr:eu n k s r) {t:Int} (ht:0<=t/\t < 8+(n:Int)):eu n k s (iG r t):=λx h=>by
 unfold iG at h;cases r with
 | none=>cases h
 | some y =>
  have:=hr y rfl;simp only at h;split at h
  ·cases h
  ·rename_i hc;cases h
   have hv:=this.1;refine⟨⟨hv.loc,hv.fK,λz hz=>?_,by simp;omega⟩,this.2⟩;rcases List.mem_append.1 hz with hz|hz
   ·exact hv.cA z hz
   ·rw[List.mem_singleton.1 hz];exact ht
theorem yT {n:Nat} {l:List Int} (hl:∀ t∈l,0<=t/\t < 8+(n:Int)) (i:Nat):0<=l.getD i 0/\l.getD i 0 < 8+(n:Int):=by
 by_cases h:i < l.length
 ·have e:l.getD i 0=l[i]:=by simp[h]
  rw[e];exact hl _ (List.getElem_mem h)
 ·have e:l.getD i 0=0:=by rw[List.getD_eq_getElem?_getD,List.getElem?_eq_none (by omega)];rfl
  rw[e];omega
theorem KK {n:Nat} {k:Int} {s:dH} (hs:uJ n k s) (cs:List dR) (i:dX):eu n k s (pG cs i s):=by
 unfold pG;repeat' split
 all_goals first
  | exact eu.none
  | exact eu.self hs
  | exact eu.pop hs _ _
  | exact(eu.self hs).push (by omega)
  | exact(eu.pop hs _ _).push (by omega)
  | exact(eu.self hs).push (yT hs.fK _)
  | exact(eu.self hs).push (hs.cA _ (List.mem_of_getLast? (by assumption)))
  | skip
 intro x hx;cases hx
 rename_i t ht;refine⟨⟨by simpa using hs.loc,λz hz=>?_,λz hz=>hs.cA z ((List.dropLast_sublist _).mem hz),by have:=hs.len;simp;omega⟩,rfl⟩;rcases List.mem_or_eq_of_mem_set hz with hz|rfl
 ·exact hs.fK z hz
 ·exact hs.cA _ (List.mem_of_getLast? ht)
theorem KL {k:Int} {s:dH} {cs:List dR} (ok:cj cs) (hs:uJ cs.length k s) (i:dX) (hi:12<=i.kind/\i.kind<=19) (hc:i.kind=12\/i.kind=17\/i.kind=18\/i.kind=19->0<=i.a/\i.a < cs.length):eu cs.length k s (vT cs i s):=by
 have h1:=ok.1;have ha:0<=yM i.a/\yM i.a < 8+(cs.length:Int):=by unfold yM;split<;>omega
 have he:0<=nD i.a/\nD i.a < 8+(cs.length:Int):=by unfold nD;split<;>omega
 unfold vT;split
 ·exact(eu.self hs).push (by have:=hc (.inl (by assumption));omega)
 split
 ·exact(eu.pop hs _ _).push ha
 split
 ·refine eu.push ?_ (by omega);split
  ·rename_i r hr;rw[<-hr];exact eu.pop hs _ _
  ·exact eu.pop hs _ _
 split
 ·exact(eu.pop hs _ _).push he
 split
 ·exact eu.pop hs _ _
 split
 ·have hx:=hc (.inr (.inl (by assumption)));refine(eu.pop hs _ _).push (yT (λt ht=>?_) _);have:=gq (rN ok (i.a.toNat+1) (by omega) hx.2 t ht);omega
 split
 ·exact eu.pop hs _ _
 ·exact(eu.pop hs _ _).push (by have:=hc (.inr (.inr (.inr (by omega))));omega)
theorem uN {u:aU} {m:cB} {k:Int} {s:dH} {i:dX} (hV:HI u) (hs:uJ u.J.length k s) (hi:eH u m i):eu u.J.length k s (stepT u m i s):=by
 have ok:=hV.1;have h1:=ok.1;have LV:(i.kind=12\/i.kind=17\/i.kind=18\/i.kind=19->0<=i.a/\i.a < u.J.length)/\(i.kind=17\/i.kind=18->0<=i.b/\i.b < (cX u.J i.a).length):=hi.vM;unfold stepT;split
 ·exact eu.pop hs _ _
 split
 ·rename_i hk;have hm:¬(if i.kind=21 then find u i.a i.b else i.a) < 0->0<=(if i.kind=21 then find u i.a i.b else i.a)/\(if i.kind=21 then find u i.a i.b else i.a) < u.methods.length:=by
   obtain⟨kind,a,b⟩:=i;simp only at hk ⊢;split
   ·have:=ji u a b;omega
   ·have R5:kind=20:=by omega
    subst R5;have:=(aI (p:=7) (q:=0) rfl).1 hi;simp[bA]at this;omega
  unfold yN;generalize (if i.kind=21 then find u i.a i.b else i.a)=kk at hm;generalize (if i.kind=21 then [8+i.a]else [])=ll;simp only;by_cases hf:kk < 0
  ·rw[if_pos hf];exact eu.none
  ·rw[if_neg hf];have hr:=hV.br (hm hf);have:=gq hr.2.2;exact(eu.pop hs _ _).push (by omega)
 split
 ·exact KL ok hs i (by assumption) LV.1
 ·exact KK hs _ _
theorem eH.jump {u:aU} {m:cB} {i:dX} (hi:eH u m i) (hj:dJ i=true):0<=i.a/\i.a < m.code.length:=by
 obtain⟨k,a,b⟩:=i;unfold dJ at hj;have hk:8<=k/\k<=11:=by simpa using hj
 have R5:k=8\/k=9\/k=10\/k=11:=by omega
 rcases R5 with rfl|rfl|rfl|rfl;all_goals
  have:=(aI (p:=4) (q:=0) rfl).1 hi;simp[bA]at this;exact this.1
theorem vV {n:Nat} {k c:Int} {s:dH} (hs:uJ n k s) (hc:0<=c/\c < n):uJ n k (eJ c s) :=
 ⟨hs.loc,hs.fK,λt ht=>by rw[List.mem_singleton.1 ht];omega,by simp[eJ]⟩
def Tryz.G37:Fs:={L:=[2,3,6],LL:=[33,44,52,55,84,95,103,110,112,117,119,123,126,132],cr:=[(8,[0,2,6,1,3,4,5,7,8,9]),(15,[0,2,4,8,1,3,5,6,7,9]),(16,[1,3,0,2,4,6,5,7]),(17,[0,2,6,1,3,4,7,5,8,9])],trees:=[(10,(.one 0 (.one 2 (.one 6 (.one 7 (.one 8 (.one 11 (.one 13 (.one 1 (.one 3 (.one 4 (.one 9 (.one 10 (.one 12 (.one 14 (.one 15 (.one 16 (.alt 5 (.one 17 (.one 18 (.one 19 .nil))) (.alt 17 (.one 5 (.one 18 (.one 19 .nil))) .fO))))))))))))))))))),(13,(.one 0 (.one 2 (.one 6 (.one 10 (.one 11 (.one 13 (.one 18 (.one 19 (.one 1 (.one 3 (.one 4 (.one 12 (.one 14 (.one 15 (.one 20 (.one 21 (.alt 5 (.one 7 (.one 8 (.alt 9 (.one 16 (.one 17 (.one 22 (.one 23 (.one 24 .nil))))) (.alt 16 (.alt 9 (.one 17 (.one 22 (.one 23 (.one 24 .nil)))) (.alt 17 (.alt 9 (.one 22 (.one 23 (.one 24 .nil))) (.alt 22 (.one 9 (.one 23 (.one 24 .nil))) .fO)) .fO)) .fO)))) (.alt 16 (.alt 5 (.one 7 (.one 8 (.alt 9 (.one 17 (.one 22 (.one 23 (.one 24 .nil)))) (.alt 17 (.alt 9 (.one 22 (.one 23 (.one 24 .nil))) (.alt 22 (.one 9 (.one 23 (.one 24 .nil))) .fO)) .fO)))) (.alt 17 (.alt 5 (.one 7 (.one 8 (.alt 9 (.one 22 (.one 23 (.one 24 .nil))) (.alt 22 (.one 9 (.one 23 (.one 24 .nil))) .fO)))) (.alt 22 (.one 5 (.one 7 (.one 8 (.one 9 (.one 23 (.one 24 .nil)))))) .fO)) .fO)) .fO)))))))))))))))))))],M:=[36,74,75,76]}
theorem Tryz.W7:aQ G37 Tryz.f37 1=true:=by kernel_rfl
def Tryz.G71:Fs:={L:=[2,3,5],LL:=[24,26],cr:=[(6,[0,2,4,8,1,3,5,6,7,9])],M:=[127]}
theorem Tryz.W8:aQ G71 Tryz.f71 1=true:=by kernel_rfl
def Tryz.G72:Fs:={L:=[3,4,6,109,132],LL:=[31,34,48,58,67,71,74,99,126,129],cr:=[(9,[0,2,3,1,4,5,6,7,8]),(11,[0,2,3,1,4,5,6,7]),(13,[0,2,3,4,7,1,5,6,8,9,10,11]),(21,[0,2,4,6,8,1,3,5,7,9,10,11,12,13,14]),(27,[0,2,3,1,4,5,6,7,8,9,10])],trees:=[(7,(.one 0 (.one 2 (.one 3 (.one 5 (.one 9 (.one 1 (.one 4 (.one 6 (.one 7 (.alt 8 (.one 10 (.one 11 (.one 12 (.one 13 (.one 14 (.one 15 .nil)))))) (.alt 10 (.one 8 (.one 11 (.one 12 (.one 13 (.one 14 (.one 15 .nil)))))) .fO))))))))))))],M:=[36,74,75]}
theorem Tryz.W9:aQ G72 Tryz.f72 2=true:=by kernel_rfl
def Tryz.G74:Fs:={L:=[6,7,22,44,59,66],LL:=[18],cr:=[(5,[0,2,3,1,4,5,6,7,8])],M:=[75]}
theorem Tryz.Xa:aQ G74 Tryz.f74 3=true:=by kernel_rfl
def Tryz.Xb:Fs:={L:=[6,35,40],LL:=[31],cr:=[(10,[0,2,3,1,4,5,6,7,8])],M:=[131]}
theorem Tryz.Rb:aQ Xb Tryz.f125 1=true:=by kernel_rfl
def Tryz.Xc:Fs:={L:=[9,25,107],LL:=[63,80,89,99],cr:=[(17,[0,1,5,2,3,4,6,7,8,9,10]),(22,[0,1,2,3,4,5,6,7,8,9,11,12,10,13,14,15,16,17,18,19,21,22,20,23,24,25,26])],M:=[36]}
theorem Tryz.Rc:aQ Xc Tryz.f126 2=true:=by kernel_rfl
def Tryz.Xd:Fs:={L:=[39,44,67],LL:=[43],trees:=[(10,(.one 0 (.one 1 (.one 2 (.one 3 (.one 4 (.one 5 (.one 7 (.one 8 (.alt 6 (.one 9 (.one 10 (.one 11 (.one 12 (.one 13 (.one 14 (.one 15 (.one 16 .nil)))))))) (.alt 9 (.one 10 (.one 11 (.one 12 (.one 6 (.one 13 (.one 14 (.one 15 (.one 16 .nil)))))))) .fO))))))))))),(14,(.one 0 (.one 1 (.one 2 (.one 4 (.one 5 (.one 7 (.one 8 (.one 10 (.one 11 (.alt 3 (.alt 6 (.alt 9 (.one 12 (.one 13 (.one 14 (.one 15 .nil)))) (.alt 12 (.one 9 (.one 13 (.one 14 (.one 15 .nil)))) .fO)) (.alt 9 (.alt 6 (.one 12 (.one 13 (.one 14 (.one 15 .nil)))) (.alt 12 (.one 6 (.one 13 (.one 14 (.one 15 .nil)))) .fO)) (.alt 12 (.alt 6 (.one 9 (.one 13 (.one 14 (.one 15 .nil)))) (.alt 9 (.one 6 (.one 13 (.one 14 (.one 15 .nil)))) .fO)) .fO))) (.alt 6 (.alt 3 (.alt 9 (.one 12 (.one 13 (.one 14 (.one 15 .nil)))) (.alt 12 (.one 9 (.one 13 (.one 14 (.one 15 .nil)))) .fO)) (.alt 9 (.alt 3 (.one 12 (.one 13 (.one 14 (.one 15 .nil)))) (.alt 12 (.one 3 (.one 13 (.one 14 (.one 15 .nil)))) .fO)) (.alt 12 (.alt 3 (.one 9 (.one 13 (.one 14 (.one 15 .nil)))) (.alt 9 (.one 3 (.one 13 (.one 14 (.one 15 .nil)))) .fO)) .fO))) (.alt 9 (.alt 3 (.alt 6 (.one 12 (.one 13 (.one 14 (.one 15 .nil)))) (.alt 12 (.one 6 (.one 13 (.one 14 (.one 15 .nil)))) .fO)) (.alt 6 (.alt 3 (.one 12 (.one 13 (.one 14 (.one 15 .nil)))) (.alt 12 (.one 3 (.one 13 (.one 14 (.one 15 .nil)))) .fO)) (.alt 12 (.alt 3 (.one 6 (.one 13 (.one 14 (.one 15 .nil)))) (.alt 6 (.one 3 (.one 13 (.one 14 (.one 15 .nil)))) .fO)) .fO))) (.alt 12 (.alt 3 (.alt 6 (.one 9 (.one 13 (.one 14 (.one 15 .nil)))) (.alt 9 (.one 6 (.one 13 (.one 14 (.one 15 .nil)))) .fO)) (.alt 6 (.alt 3 (.one 9 (.one 13 (.one 14 (.one 15 .nil)))) (.alt 9 (.one 3 (.one 13 (.one 14 (.one 15 .nil)))) .fO)) (.alt 9 (.alt 3 (.one 6 (.one 13 (.one 14 (.one 15 .nil)))) (.alt 6 (.one 3 (.one 13 (.one 14 (.one 15 .nil)))) .fO)) .fO))) .fO))))))))))))))],M:=[36]}
theorem Tryz.Rd:aQ Xd Tryz.f130 1=true:=by kernel_rfl
def Tryz.Xe:Fs:={L:=[4,5,22],LL:=[18],cr:=[(5,[0,2,3,1,4,5,6,7,8])],M:=[131]}
theorem Tryz.Re:aQ Xe Tryz.f166 2=true:=by kernel_rfl
def Tryz.Xf:Fs:={L:=[4,5,10,12,13],LL:=[39,41,45,48,49,50,66,72,75,80],cr:=[(9,[0,1,3,2,4,5,6,7,9,10,8,11,12,13,14,15,16]),(14,[0,2,1,3,4,5,6,8,9,11,7,10,12,13,15,14,16,17])],M:=[214]}
theorem Tryz.Rf:aQ Xf Tryz.f193 4=true:=by kernel_rfl
end Go.Proofs
