/- Lemmas. -/
import Derived.Test.YtcenghjfipkgmaaGreatMb4
set_option linter.unusedSimpArgs false
set_option linter.unusedVariables false
namespace Go.Proofs
open Go.Vc Go.Proofs.Tryz
set_option maxRecDepth 100000
set_option maxHeartbeats 4000000
def m5 (u:aO) (c pc:Int):List nK->Option nK
 | []=>none
 | k::r=>if (k.lo<=pc/\pc < k.hi)/\up u.J c k.cls=true then some k else m5 u c pc r
def wJ (u:aO) (c n:Int):List bQ->Option (List bQ)
 | []=>none
 | f::r=>match m5 u c f.pc (aV u f.U).catches with
  | some k=>some ({f with pc:=k.to,stack:=[⟨true,n⟩]}::r)
  | none=>wJ u c n r
def cK (u:aO) (n:Int) (M:bM):bM:=match wJ u (aF M.objs n).cls n M.ag.reverse with
 | some l=>{M with ag:=l.reverse}
 | none=>{M with ag:=[],fin:=2,out:=⟨true,n⟩}
theorem y6 (u:aO) (n:Int) (M:bM) (gs:List bQ) (g:bQ):cK u n {M with ag:=gs++[g]}=match m5 u (aF M.objs n).cls g.pc (aV u g.U).catches with
  | some k=>{M with ag:=gs++[{g with pc:=k.to,stack:=[⟨true,n⟩]}]}
  | none=>cK u n {M with ag:=gs}:=by
 simp only[cK,List.reverse_append,List.reverse_cons,List.reverse_nil,List.nil_append,List.singleton_append,wJ];cases m5 u (aF M.objs n).cls g.pc (aV u g.U).catches with
 | some k=>simp
 | none=>rfl
theorem m6 {u:aO} {c pc:Int}:∀(l:List nK) (i:Nat),(∀ j (hj:j < l.length),j < i->¬((l[j].lo<=pc/\pc < l[j].hi)/\up u.J c l[j].cls=true))->m5 u c pc l=m5 u c pc (l.drop i)
 | l,0,_=>by simp
 | [],i+1,_=>by simp
 | m::r,i+1,h=>by
  have h0:=h 0 (by simp) (by omega);simp only[List.getElem_cons_zero]at h0;rw[m5,if_neg h0,List.drop_succ_cons];exact m6 r i (λj hj jj=>by have:=h (j+1) (by simpa using hj) (by omega);simpa using this)
theorem gV.iN {h0 h:Heap} {bm:Nat} {pre post:List Value} {M:bM} {B:List Nat} (hM:gV h0 h bm pre post M B):(∃ p c,rd h bm (pre.length+1)=some (.slice p M.ag.length c))/\∃ p c,rd h bm (pre.length+0)=some (.slice p M.objs.length c):=by
 obtain⟨t,vo,vf,vs,hb,⟨p,c,e1⟩,⟨p',c',e2⟩,_,_⟩:=hM.ints;exact⟨⟨p',c',bE hb (i:=1) rfl (by rw[e2];rfl)⟩,⟨p,c,bE hb (i:=0) rfl (by rw[e1];rfl)⟩⟩
theorem gV.j6 {h0 h:Heap} {bm:Nat} {pre post:List Value} {M:bM} {B:List Nat} (hM:gV h0 h bm pre post M B) {n:Int} (h1:0 < n) (h2:n<=M.objs.length) :
  ∃ bo c,rd h bm (pre.length+0)=some (.slice (some ⟨bo,0,none⟩) M.objs.length c)/\rd h bo (0+(n-1).toNat*2)=some (.int .i64 (aF M.objs n).cls):=by
 have hi:(n-1).toNat < M.objs.length:=by omega
 obtain⟨bo,c,tm,vf,vs,q,r,t,v,Bi,hb,nH,hq,_⟩:=hM.obj (vh M.objs hi);have dj:(M.objs.take (n-1).toNat).length=(n-1).toNat:=by simp;omega
 have ud:aF M.objs n=M.objs[(n-1).toNat]:=vj hi (by omega);exact⟨bo,c,bE hb (i:=0) rfl rfl,by rw[ud];exact bE nH (i:=0) (by omega) rfl⟩
theorem vn (h0 h:Heap) (bm:Nat) (us:List Value) (u:aO) (M:bM) (B:List Nat) (n:Int) (hM:gV h0 h bm [] [] M B) (hu:dG h0 us u) (ok:cI u.J) (hn:0 < n/\n<=M.objs.length) (AF:M.objs.length<=1000) (hl:M.ag.length<=1000)
  (hc:(aF M.objs n).cls < u.J.length) (qO:∀ g∈M.ag,0<=g.U/\g.U < u.methods.length) :
  bI prog 61 [.agg ⟨us⟩,.pointer (some ⟨bm,0,none⟩),.int .i64 n] h λ_ h'=>∃ B',gV h0 h' bm [] [] (cK u n M) B'/\Ev h h' (bm::B) (bm::B'):=by
 have iw:=hu;obtain⟨p,cc,q,d,rfl,hcs,fM,ji,hl2⟩:=hu.form;obtain⟨bo,co,r1,r2⟩:=hM.j6 hn.1 hn.2;refine bZ au func61 F61 abD rfl ?_;conv=>whnf
 repeat' ((first|refine ld r1 ?_|refine ld r2 ?_|refine aq ?_|refine ah ?_|refine ptr ?_)<;>conv=>whnf)
 refine fh [1,2,3,6] [3] (λs:List bQ × Heap × List Nat=>gV h0 s.2.1 bm [] [] {M with ag:=s.1} s.2.2/\Ev h s.2.1 (bm::B) (bm::s.2.2)/\cK u n {M with ag:=s.1}=cK u n M/\s.1.length<=1000/\∀ g∈s.1,0<=g.U/\g.U < u.methods.length) (λs=>s.1.length)
  (λs=>([.v (.pointer (some ⟨bm,0,none⟩)),.v (.int .i64 n),.l 3 0,.v (.int .i64 (aF M.objs n).cls)],[some [.slice p u.J.length cc,.slice q u.methods.length d]],s.2.1))
  (M.ag,h,B) ⟨hM,Ev.refl _ _,rfl,hl,qO⟩ rfl ?_
 rintro⟨fs,h1,B1⟩ ⟨ye,gh,dW,tQ,ug⟩;simp only at ye gh dW tQ ug ⊢;conv=>whnf
 obtain⟨⟨pf,cf,r3⟩,_⟩:=ye.iN;simp only[List.length_nil,Nat.zero_add]at r3;refine ld r3 ?_;conv=>whnf
 apply ax<;>intro g0;all_goals conv=>whnf
 ·obtain⟨gs,g,rfl⟩:∃ gs gl,fs=gs++[gl]:=by
   rcases List.eq_nil_or_concat fs with rfl|⟨gs,gl,rfl⟩
   ·simp at g0
   ·exact⟨gs,gl,by simp⟩
  have hg:=ug g (by simp);have hlen:(gs++[g]).length=gs.length+1:=by simp
  obtain⟨tm,vo,vs,bf,c,t,qq,r,v1,v2,Bl,Bs,iR,kz,hq,o1,o2,nd,gz,cH,ne,fe⟩:=ye.lens (fs:=gs) (f:=g) rfl;have Ed:rd h1 bm 1=some (.slice (some ⟨bf,0,none⟩) (gs.length+1) c):=bE iR (i:=1) rfl rfl;rw[r3]at Ed;simp only[v_,Z_]at Ed;obtain⟨rfl,_,rfl⟩:=Ed;rw[y6]at dW;have Au:0+(((gs++[g]).length:Int)-1).toNat*4=gs.length*4:=by omega
  have s0:rd h1 bf (0+(((gs++[g]).length:Int)-1).toNat*4)=some (.int .i64 g.U):=by rw[Au];exact bE kz (i:=0) (by omega) rfl
  have s1:rd h1 bf (0+(((gs++[g]).length:Int)-1).toNat*4+1)=some (.int .i64 g.pc):=by rw[Au];exact bE kz (i:=1) (by omega) rfl
  have hi:g.U.toNat < u.methods.length:=by omega
  have e:=fM.get hi;obtain⟨bb,oo,mcs,wA,e1,e2⟩:=e;have oE:aV u g.U=u.methods[g.U.toNat]:=gU hi (by omega);obtain⟨p1,c1,p2,c2,p3,c3,p4,c4,e3,k1,k2,k3,k4,k5,k6,k7,k8,d1,d2,d3,d4⟩:=e2.form;subst e3;have s2:rd h1 bb (oo+g.U.toNat*8+7)=some (.slice p4 (aV u g.U).catches.length c4):=by rw[oE];exact aX ye.le (aE e1 (i:=7) rfl)
  have Sf:Row 4 DV h1 (.slice p4 (aV u g.U).catches.length c4) (aV u g.U).catches:=by rw[oE];exact k8.le ye.le (λ_ _ hx=>hx)
  have d4':(aV u g.U).catches.length<=140737488351232:=by rw[oE];exact d4
  have CB:fP h1 (.slice p u.J.length cc) u.J:=hcs.le ye.le (λ_ _ hx=>hx.le ye.le);repeat' ((first|refine ld r3 ?_|refine ld s0 ?_|refine aG wA ?_|refine ld s2 ?_|refine aq ?_|refine ah ?_|refine ptr ?_)<;>conv=>whnf)
  refine fh [1,2,3,6,7,44,45,46] [3] (λi:Nat=>i<=(aV u g.U).catches.length/\∀ j (hj:j < (aV u g.U).catches.length),j < i->¬(((aV u g.U).catches[j].lo<=g.pc/\g.pc < (aV u g.U).catches[j].hi)/\up u.J (aF M.objs n).cls (aV u g.U).catches[j].cls=true)) (λi=>(aV u g.U).catches.length-i)
   (λi=>([.v (.pointer (some ⟨bm,0,none⟩)),.v (.int .i64 n),.l 3 0,.v (.int .i64 (aF M.objs n).cls),.v (.pointer (some ⟨bf,0+(((gs++[g]).length:Int)-1).toNat*4,none⟩)),.v (.slice p4 (aV u g.U).catches.length c4),.v (.int .i64 (aV u g.U).catches.length),.v (.int .i64 i)],[some [.slice p u.J.length cc,.slice q u.methods.length d]],h1)) 0 ⟨by omega,λ_ _ hx=>by omega⟩ rfl ?_
  rintro i ⟨hi4,QM⟩;conv=>whnf
  apply ax<;>intro g5;all_goals conv=>whnf
  ·have bV:i < (aV u g.U).catches.length:=by omega
   have f:=Sf.get bV;obtain⟨bc,oc,cvs,Lf,f1,f2,f3⟩:=f;subst f2;have go:¬(((aV u g.U).catches[i].lo<=g.pc/\g.pc < (aV u g.U).catches[i].hi)/\up u.J (aF M.objs n).cls (aV u g.U).catches[i].cls=true)->∀ j (hj:j < (aV u g.U).catches.length),j < i+1->¬(((aV u g.U).catches[j].lo<=g.pc/\g.pc < (aV u g.U).catches[j].hi)/\up u.J (aF M.objs n).cls (aV u g.U).catches[j].cls=true):=by
    intro hx j hj jj;rcases Nat.lt_succ_iff_lt_or_eq.1 jj with iu|rfl
    ·exact QM j hj iu
    ·exact hx
   refine aq ?_;conv=>whnf
   refine aG Lf ?_;conv=>whnf
   refine dJ f1 ?_;conv=>whnf
   repeat' ((first|refine ld s1 ?_|refine aK (KY _ _ _) ?_|refine aq ?_|refine ah ?_|refine ptr ?_)<;>conv=>whnf)
   apply ax<;>intro g6;all_goals conv=>whnf
   ·refine aK (xE _ _ _ _ _ _ _ CB ok hc) ?_;conv=>whnf
    apply eK<;>intro g7;all_goals conv=>whnf
    ·have Df:m5 u (aF M.objs n).cls g.pc (aV u g.U).catches=some (aV u g.U).catches[i]:=by
      rw[m6 _ i QM,List.drop_eq_getElem_cons bV,m5,if_pos ⟨g6,g7⟩]
     rw[Df]at dW;simp only at dW;refine lP kz (i:=1) [.int .i64 g.U,.int .i64 (aV u g.U).catches[i].to,v1,v2] (by omega) (by simp) rfl (λh2 iD tY=>?_);conv=>whnf
     refine aj (nQ _ _) ?_;conv=>whnf
     refine ec [.bool true,.int .i64 n] rfl (λb h3 hb kB l3 Le=>?_);conv=>whnf
     have gL:h1 b=none:=by
      rw[iD]at hb;by_cases uC:b=bf
      ·subst uC;simp[Heap.set]at hb
      ·simpa [Heap.set,uC]using hb
     have Sg:b≠bf:=by rintro rfl;rw[tY]at hb;cases hb
     refine lP (l3 _ _ tY) (i:=3) [.int .i64 g.U,.int .i64 (aV u g.U).catches[i].to,v1,.slice (some ⟨b,0,none⟩) 1 1] (by omega) (by simp) rfl (λh4 yg Sh=>?_);have rD:∀ x,x≠bf->x≠b->h4 x=h1 x:=by
      intro x n1 n2;rw[yg,kB,iD];simp[Heap.set,n1,n2]
     have Ul:h4 b=some (.cells [Value.bool true,.int .i64 n].toArray 31 (0,0)):=by
      rw[yg];simp only[Heap.set,Sg,if_false];exact Le
     have Si:∀ x∈Bl,x≠bf/\x≠b:=λx hx=>⟨(cH x (by simp[hx])).1,by rintro rfl;obtain⟨o,ho⟩:=o1.in x hx;rw[gL]at ho;cases ho⟩
     obtain⟨B2,Af,iE⟩:=fe h4 {g with pc:=(aV u g.U).catches[i].to,stack:=[⟨true,n⟩]} v1 (.slice (some ⟨b,0,none⟩) 1 1) Bl [b] Sh
      (λx hx hn=>by
       have n1:x≠bf:=λhy=>hx (by simp[hy]);have n2:x≠b:=by rintro rfl;exact hn gL
       exact rD x n1 n2)
      (o1.aJ λx hx o ho=>by rw[rD x (Si x hx).1 (Si x hx).2];exact ho)
      (jC (t:=31) (by simp[bR]) rfl (by rw[Ul];rfl))
      (λx hx=>by
       rcases u_.1 hx with hx|hx
       ·exact .inl (by simp[hx])
       ·rw[V_.1 hx];exact .inr gL)
      (by
       have n1:Nd Bl:=nd.less λa=>by simp only[Y_];omega
       intro a;have:=n1 a;simp only[Y_,X_,List.count_nil];by_cases ha:b=a
       ·subst ha;have:Bl.count b=0:=List.count_eq_zero.2 λhx=>(Si b hx).2 rfl;simp[this]
       ·simp[ha];exact this)
     conv=>whnf
     refine⟨B2,?_,gh.trans iE⟩;rw[<-dW];exact Af
    ·refine ah ?_;conv=>whnf
     refine dm (i+1) ⟨by omega,go (λhx=>by rw[hx.2]at g7;cases g7)⟩ (by omega) rfl
   ·refine ah ?_;conv=>whnf
    refine dm (i+1) ⟨by omega,go (λhx=>g6 hx.1)⟩ (by omega) rfl
  ·have Df:m5 u (aF M.objs n).cls g.pc (aV u g.U).catches=none:=by
    rw[m6 _ (aV u g.U).catches.length (λj hj _=>QM j hj (by omega)),List.drop_length];rfl
   rw[Df]at dW;simp only at dW;obtain⟨t',Sj,c',yW,og,Lg,gF,B2,Af,iE⟩:=ye.OJ (fs:=gs) (f:=g) rfl;have Ed:rd h1 bm 1=some (.slice Sj (gs.length+1) c'):=bE Lg (i:=1) rfl rfl;rw[r3]at Ed;simp only[v_,Z_]at Ed;obtain⟨rfl,_,rfl⟩:=Ed;repeat' ((first|refine ld r3 ?_|refine aq ?_|refine ah ?_|refine ptr ?_)<;>conv=>whnf)
   have Lb:(((gs++[g]).length:Int)-1).toNat=gs.length:=by omega
   refine lP Lg (i:=1) (ay yW (.slice (some ⟨bf,0,none⟩) gs.length cf) og {M with ag:=gs++[g]}) rfl (by simp[ay]) (by rw[Lb];rfl) (λh2 iD tY=>?_);rw[<-iD]at Af iE;conv=>whnf
   refine dm (gs,h2,B2) ⟨Af,gh.trans iE,dW,by simp at tQ ⊢;omega,λx hx=>ug x (by simp[hx])⟩ (by simp) rfl
 ·have Lc:fs=[]:=List.eq_nil_of_length_eq_zero (by omega);subst Lc;obtain⟨t',yW,Ea,og,bA,_,_,_,hint⟩:=ye.ints;refine lP bA (i:=4) (ay yW Ea og {M with ag:=[],fin:=2}) rfl (by simp[ay]) rfl (λh2 iD tY=>?_);conv=>whnf
  refine aj (nQ _ _) ?_;conv=>whnf
  refine Ag tY ([]++ay yW Ea og {M with ag:=[],fin:=2,out:=⟨true,n⟩}++[]) (by simp[ay]) rfl (λh3 kB Le=>?_);obtain⟨Af,iE⟩:=hint {M with ag:=[],fin:=2,out:=⟨true,n⟩} rfl rfl rfl;have Ee:h3=h1.set bm (.cells ([]++ay yW Ea og {M with ag:=[],fin:=2,out:=⟨true,n⟩}++[]).toArray t' (0,0)):=by
   rw[kB,iD,set_set]
  rw[<-Ee]at Af iE;conv=>whnf
  refine⟨B1,?_,gh.trans iE⟩;rw[<-dW];exact Af
def gW (u:aO) (x:ez) (aR:List Vl) (fs:List bQ) (M:bM):Except Int bM :=
 let a:=aR.getD 0 cU
 if x.kind=20 then jA u x.a aR M
 else if x.kind=21 then (match eE M.objs a.n (up u.J (aF M.objs a.n).cls x.a)with
  | .error e=>.error e
  | .ok o=>jA u (find u o.cls x.b) aR M)
 else if x.kind=22 then rE a fs M
 else if x.kind=23 then (match eE M.objs a.n (up u.J (aF M.objs a.n).cls 1)with
  | .error e=>.error e
  | .ok _=>.ok (cK u a.n M))
 else .ok M
theorem qk.trans {h0 h h1:Heap} {bm:Nat} {B B1:List Nat} {r:Except Int bM} {o:Out} {h':Heap} (ev:Ev h h1 (bm::B) (bm::B1)) (he:qk h0 h1 bm B1 r o h'):qk h0 h bm B r o h':=by
 cases o with
 | ret v=>obtain⟨M',e,B',k1,k2⟩:=he;exact⟨M',e,B',k1,ev.trans k2⟩
 | lY c=>exact he
theorem sK (h0 h:Heap) (bs bm bf off:Nat) (u:aO) (m:cL) (fs:List bQ) (f:bQ) (M:bM) (B:List Nat) (x:ez) (aR:List Vl) (vt:Value) (Bt:List Nat) (hS:lB h0 h bs bm bf off u m fs f M B)
  (ot:cj h vt aR Bt) (jV:∀ b∈Bt,b ∉ bm::B/\b≠bs) (ok:cI u.J) (hk:20<=x.kind/\x.kind<=23) (hl:M.objs.length<=900) (QK:M.ag.length<=900) (ud:K8 u M.objs) (tr:∀ v∈aR,v.ref=true->0<=v.n/\v.n<=M.objs.length)
  (Fo:x.kind=20->(0<=x.a/\x.a < u.methods.length)/\((aR.length:Int)<=(aV u x.a).locals/\(aV u x.a).locals<=3))
  (Fp:x.kind=21->∃ a r,aR=a::r/\a.ref=true) (Y1:x.kind=21->∀ c:Int,c < u.J.length->up u.J c x.a=true->0<=find u c x.b/\((aR.length:Int)<=(aV u (find u c x.b)).locals/\(aV u (find u c x.b)).locals<=3))
  (h22:x.kind=22->∃ a,aR=[a]) (h23:x.kind=23->∃ a,aR=[a]/\a.ref=true) (qO:∀ g∈M.ag,(0<=g.U/\g.U < u.methods.length)/\0<=g.pc/\g.pc<=1000) :
  cZ prog 160 [.pointer (some ⟨bs,0,none⟩),.agg #[.int .i64 x.kind,.int .i64 x.a,.int .i64 x.b],vt] h (qk h0 h bm B (gW u x aR fs M)):=by
 obtain⟨kind,a,b⟩:=x;simp only at hk Fo Fp Y1 h22 h23 ⊢;obtain⟨pt,ct,rfl,_⟩:=ot.form;obtain⟨r1,r2,_,p,cc,q,d,hu,r9,iM,R9,_⟩:=hS.mp;have DA:kind=20\/kind=21\/kind=22\/kind=23:=by omega
 rcases DA with rfl|rfl|rfl|rfl
 ·refine outs au func160 KD HB rfl ?_;conv=>whnf
  refine dK (Ec h0 h bs bm bf off u m fs f M B a aR _ Bt hS ot jV (Fo rfl).1 (Fo rfl).2) ?_ ?_
  ·rintro v h' hh;conv=>whnf
   exact hh
  ·rintro c h' hh;exact hh
 ·obtain⟨v0,rr,rfl,ig⟩:=Fp rfl;have hlen:0 < (List.map bR (v0::rr)).length:=by simp
  obtain⟨b0,qL,_,eI⟩:=ot.all (by simp);have n0:=(eI 0 (by simp)).1;have q0:=(eI 0 (by simp)).2;simp only[List.getElem_cons_zero]at n0 q0;have qE:=tr v0 (by simp) ig;have dW:gW u ⟨21,a,b⟩ (v0::rr) fs M=(match eE M.objs v0.n (up u.J (aF M.objs v0.n).cls a)with
   | .error e=>.error e
   | .ok o=>jA u (find u o.cls b) (v0::rr) M):=rfl
  rw[dW];refine outs au func160 KD HB rfl ?_;conv=>whnf
  repeat' ((first|exact trivial|apply T_|refine aG qL ?_|refine dJ n0 ?_|refine aq ?_|refine ah ?_|refine ptr ?_)<;>conv=>whnf)
  all_goals
   refine sC (sH h0 h bs bm bf off u m fs f M B v0 a hS ok qE (by omega) (λhp=>(ud _ (j8 hp qE.2)).1.2)) ?_ ?_
   ·rintro v h1 ⟨l1,e1,e2,bo,c,s1,rfl⟩;refine⟨l1,?_⟩;have gq:=hS.mono l1;obtain⟨bo',c',w1,w2⟩:=gq.ma.j6 e1 qE.2;simp only[List.length_nil,Nat.zero_add]at w1;rw[s1]at w1;simp only[v_,Z_,Addr.mk.injEq,and_true,true_and]at w1;obtain⟨rfl,rfl⟩:=w1;have lI:=(ud _ (j8 e1 qE.2)).1.2;have h0c:=lO e2;have hsend:=Y1 rfl _ lI e2;have D6:=hu.le gq.ma.le;rw[gR e1 e2];simp only;conv=>whnf
    repeat' ((first|exact trivial|apply T_|refine dJ (bK l1 R9) ?_|refine ld (aX l1 r2) ?_|refine ld s1 ?_|refine aG qL ?_|refine ld (aX l1 q0) ?_|refine ld w2 ?_|refine aK (yQ _ u _ _ h1 D6 ok (by omega) lI) ?_|refine aq ?_|refine ah ?_|refine ptr ?_)<;>conv=>whnf)
    all_goals
     refine dK (Ec h0 h1 bs bm bf off u m fs f M B _ (v0::rr) _ Bt gq (ot.aJ (cR.of_le l1 _)) jV ⟨hsend.1,(jN u _ b).2⟩ hsend.2) ?_ ?_
     ·rintro v h' hh;conv=>whnf
      exact qk.trans (Ev.of_le l1 (bm::B) (λb hb=>.inl hb)) hh
     ·rintro c h' hh;exact qk.trans (Ev.of_le l1 (bm::B) (λb hb=>.inl hb)) hh
   ·rintro c h1 ⟨l1,e1⟩;have qj:=hS.ma.K1 l1;rcases e1 with ⟨e1,e2,e3⟩|⟨e1,e3⟩
    ·exact⟨0,by rw[gJ e1 e2],e3,qj⟩
    ·exact⟨2,by rw[gK e1],e3,qj⟩
 ·obtain⟨v0,rfl⟩:=h22 rfl;have hlen:(List.map bR [v0]).length=1:=rfl;obtain⟨b0,qL,_,eI⟩:=ot.all (by simp);have n0:=(eI 0 (by simp)).1;simp only[List.getElem_cons_zero]at n0;refine outs au func160 KD HB rfl ?_;conv=>whnf
  repeat' ((first|refine aG qL ?_|refine dJ n0 ?_|refine aq ?_|refine ah ?_|refine ptr ?_)<;>conv=>whnf)
  refine dK (Sd h0 h bs bm bf off u m fs f M B v0 hS (by omega) (λg hg=>qO g (by rw[hS.ag];simp[hg]))) ?_ ?_
  ·rintro v h' hh;conv=>whnf
   exact hh
  ·rintro c h' hh;exact hh
 ·obtain⟨v0,rfl,ig⟩:=h23 rfl;have hlen:(List.map bR [v0]).length=1:=rfl;obtain⟨b0,qL,_,eI⟩:=ot.all (by simp);have n0:=(eI 0 (by simp)).1;have q0:=(eI 0 (by simp)).2;simp only[List.getElem_cons_zero]at n0 q0;have qE:=tr v0 (by simp) ig;have dW:gW u ⟨23,a,b⟩ [v0] fs M=(match eE M.objs v0.n (up u.J (aF M.objs v0.n).cls 1)with
   | .error e=>.error e
   | .ok _=>.ok (cK u v0.n M)):=rfl
  rw[dW];refine outs au func160 KD HB rfl ?_;conv=>whnf
  repeat' ((first|exact trivial|apply T_|refine aG qL ?_|refine dJ n0 ?_|refine aq ?_|refine ah ?_|refine ptr ?_)<;>conv=>whnf)
  all_goals
   refine dK (sH h0 h bs bm bf off u m fs f M B v0 1 hS ok qE (by omega) (λhp=>(ud _ (j8 hp qE.2)).1.2)) ?_ ?_
   ·rintro v h1 ⟨l1,e1,e2,bo,c,s1,rfl⟩;have gq:=hS.mono l1;have lI:=(ud _ (j8 e1 qE.2)).1.2;rw[gR e1 e2];simp only;conv=>whnf
    repeat' ((first|exact trivial|apply T_|refine dJ (bK l1 R9) ?_|refine ld (aX l1 r2) ?_|refine aG qL ?_|refine ld (aX l1 q0) ?_|refine aq ?_|refine ah ?_|refine ptr ?_)<;>conv=>whnf)
    all_goals
     refine aC (vn h0 h1 bm _ u M B v0.n gq.ma hu ok ⟨e1,qE.2⟩ (by omega) (by omega) lI (λg hg=>(qO g hg).1)) ?_;rintro v h2 ⟨B',k1,k2⟩;conv=>whnf
     exact⟨_,rfl,B',k1,(Ev.of_le l1 (bm::B) (λb hb=>.inl hb)).trans k2⟩
   ·rintro c h1 ⟨l1,e1⟩;have qj:=hS.ma.K1 l1;rcases e1 with ⟨e1,e2,e3⟩|⟨e1,e3⟩
    ·exact⟨0,by rw[gJ e1 e2],e3,qj⟩
    ·exact⟨2,by rw[gK e1],e3,qj⟩
abbrev Sk:=Except Int (List Ob × bQ × List Int × Bool)
def fA (objs:List Ob) (f:bQ) (said:List Int) (v:Vl):Sk:=match dH objs f v with
 | .ok (o,g)=>.ok (o,g,said,false)
 | .error e=>.error e
def gG (u:aO) (x:ez) (aR:List Vl) (objs:List Ob) (f:bQ) (said:List Int):Sk :=
 let a:=aR.getD 0 cU
 let b:=aR.getD 1 cU
 if x.kind=1 then fA objs f said ⟨false,x.a⟩
 else if x.kind=2 then fA objs f said ⟨true,0⟩
 else if x.kind=3 then fA objs f said (f.locals.getD x.a.toNat cU)
 else if x.kind=4 then .ok (objs,{f with locals:=f.locals.set x.a.toNat a},said,false)
 else if x.kind=5 then .ok (objs,f,said,false)
 else if x.kind=6 then (match dH objs f a with
  | .ok (_,g)=>fA objs g said a
  | .error e=>.error e)
 else if x.kind=7 then (if (iJ x.a a.n b.n).2 then fA objs f said ⟨false,(iJ x.a a.n b.n).1⟩else .error 1)
 else if x.kind=8 then .ok (objs,f,said,decide (a.n < b.n))
 else if x.kind=9 then .ok (objs,f,said,decide (a.n=b.n))
 else if x.kind=10 then .ok (objs,f,said,decide (a.n=0))
 else if x.kind=11 then .ok (objs,f,said,true)
 else if x.kind=24 then .ok (objs,f,said++[a.n],false)
 else match bD u x aR objs f with
  | .ok (o,g)=>.ok (o,g,said,false)
  | .error e=>.error e
def ep:ez:=⟨0,0,0⟩
def kD (u:aO) (fs:List bQ) (f:bQ) (M:bM):Except Int bM :=
 let code:=(aV u f.U).code
 if (code.length:Int)<=f.pc then .error 0 else
 let x:=code.getD f.pc.toNat ep
 match ee u x f.stack with
 | none=>.error 0
 | some (aR,rest) =>
  let f1:bQ:={f with stack:=rest}
  if 20<=x.kind/\x.kind<=23 then gW u x aR fs {M with ag:=fs++[f1]}
  else match gG u x aR M.objs f1 M.said with
   | .error e=>.error e
   | .ok (objs,g,said,kq)=>.ok {M with objs:=objs,said:=said,ag:=fs++[{g with pc:=if kq then x.a else f.pc+1}]}
def Sl (n:Nat) (v:Vl):Prop:=v.ref=true->0<=v.n/\v.n<=n
structure Y2 (u:aO) (n:Nat) (g:bQ):Prop where
 U:0<=g.U/\g.U < u.methods.length
 pc:0<=g.pc/\g.pc<=(aV u g.U).code.length
 loc:(g.locals.length:Int)=(aV u g.U).locals
 cP:g.stack.length<=4
 vl:∀ v∈g.locals,Sl n v
 vs:∀ v∈g.stack,Sl n v
structure IX (u:aO) (M:bM):Prop where
 objs:K8 u M.objs
 len:7<=M.objs.length/\M.objs.length<=400
 aW:∀ o∈M.objs,∀ v∈o.aW,Sl M.objs.length v
 iN:∀ g∈M.ag,Y2 u M.objs.length g
 nf:M.ag.length<=4
 said:M.said.length<=400
theorem kJ {u:aO} {x:ez} {cP aR rest:List Vl} (h:ee u x cP=some (aR,rest)):∃ ws,di u x=some ws/\aR.length=ws.length/\jD ws aR=true/\cP=rest++aR:=by
 unfold ee at h;split at h
 ·cases h
 ·rename_i ws m3;split at h
  ·cases h
  ·split at h
   ·rename_i h1 h2;simp only[v_,Prod.mk.injEq]at h;obtain⟨rfl,rfl⟩:=h;exact⟨ws,m3,by simp;omega,h2,by simp⟩
   ·cases h
theorem uh {l:List Vl} (h:l.length=2):∃ a b,l=[a,b]:=by
 match l,h with
 | [a,b],_=>exact⟨a,b,rfl⟩
theorem gu {l:List Vl} (h:l.length=1):∃ a,l=[a]:=by
 match l,h with
 | [a],_=>exact⟨a,rfl⟩
theorem Ef {l:List Vl} (h:l.length=3):∃ a b c,l=[a,b,c]:=by
 match l,h with
 | [a,b,c],_=>exact⟨a,b,c,rfl⟩
theorem Sm {l:List Vl} (h:l.length=0):l=[]:=List.eq_nil_of_length_eq_zero h
theorem iV {u:aO} {k:Int} (h:0<=k/\k < u.methods.length):aV u k∈u.methods:=by
 have hi:k.toNat < u.methods.length:=by omega
 rw[gU hi (by omega)];exact x_ _
theorem cz.args {u:aO} (hu:cz u):∀ m∈u.methods,m.args.length<=2:=λm hm=>(hu.2.2.2.1 m hm).1.2.1
theorem eU.ok {u:aO} {m:cL} {x:ez} (hu:cz u) (hx:eU u m x):QC u x:=by
 refine⟨hu.1,hu.args,λhk=>?_,λhk=>?_⟩
 ·obtain⟨kind,a,b⟩:=x;simp only at hk;subst hk;have:=(aI (p:=7) (q:=0) rfl).1 hx;simp[bz]at this;exact this.1.1
 ·obtain⟨kind,a,b⟩:=x;simp only at hk;subst hk;have:=(aI (p:=5) (q:=9) rfl).1 hx;simp[bz]at this;exact this.1
theorem lB.move {h0 h h':Heap} {bs bm bf off:Nat} {u:aO} {m:cL} {fs:List bQ} {f:bQ} {M M':bM} {B B':List Nat} (hS:lB h0 h bs bm bf off u m fs f M B) (hM:gV h0 h' bm [] [] M' B') (hf:M'.ag=M.ag) (e1:h' bs=h bs) (e2:rd h' bm 1=rd h bm 1) (hn:bs ∉ bm::B') :
  lB h0 h' bs bm bf off u m fs f M' B':=by
 obtain⟨_,HC,⟨jL,c,hr⟩,⟨ms,us,ts,eB,hu,hm⟩,fK⟩:=hS;exact⟨hM,by rw[hf,HC],⟨jL,c,by rw[e2];exact hr⟩,⟨ms,us,ts,by rw[e1];exact eB,hu,hm⟩,hn⟩
theorem lB.aco {h0 h:Heap} {bs bm bf off:Nat} {u:aO} {m:cL} {fs:List bQ} {f:bQ} {M:bM} {B:List Nat} (hS:lB h0 h bs bm bf off u m fs f M B):∃ v B1,rd h bf (off+2)=some v/\cj h v f.locals B1:=by
 obtain⟨t,q,r,v1,v2,B1,B2,kz,hq,o1,_⟩:=hS.lens;exact⟨v1,B1,bE kz (i:=2) (by omega) rfl,o1⟩
theorem lB.v8 {h0 h:Heap} {bs bm bf off:Nat} {u:aO} {m:cL} {fs:List bQ} {f:bQ} {M:bM} {B:List Nat} (hS:lB h0 h bs bm bf off u m fs f M B) :
  ∃ t q r v1 v2,rd h bs 0=some (.pointer (some ⟨bf,off,none⟩))/\h bf=some (.cells (q++[.int .i64 f.U,.int .i64 f.pc,v1,v2]++r).toArray t (0,0))/\q.length=off/\rd h bf (off+1)=some (.int .i64 f.pc) /\
   ∀ n,∃ B',gV h0 (h.set bf (.cells (q++[.int .i64 f.U,.int .i64 n,v1,v2]++r).toArray t (0,0))) bm [] [] {M with ag:=fs++[{f with pc:=n}]} B'/\Ev h (h.set bf (.cells (q++[.int .i64 f.U,.int .i64 n,v1,v2]++r).toArray t (0,0))) (bm::B) (bm::B'):=by
 obtain⟨t,q,r,v1,p2,c2,B2,kz,hq,o2,_,r1,r2,fe⟩:=hS.cP;refine⟨t,q,r,v1,_,r1,kz,hq,bE kz (i:=1) (by omega) rfl,λn=>?_⟩;obtain⟨_,_,_,B',hS',ev⟩:=fe h _ B2 f.stack n (λ_ _ _=>rfl) o2 (λb hb=>.inl hb);exact⟨B',hS'.ma,ev⟩
theorem lB.y7 {h0 h:Heap} {bs bm bf off:Nat} {u:aO} {m:cL} {fs:List bQ} {f:bQ} {M:bM} {B:List Nat} {K:Value->Prop} (hS:lB h0 h bs bm bf off u m fs f M B) (hk:K (.pointer (some ⟨bf,off,none⟩))):Ld h bs 0 K:=ld hS.mp.1 hk
theorem lB.kr {h0 h:Heap} {bs bm bf off:Nat} {u:aO} {m:cL} {fs:List bQ} {f:bQ} {M:bM} {B:List Nat} {K:Heap->Prop} {n:Int} (hS:lB h0 h bs bm bf off u m fs f M B)
  (hk:∀ h9 B9,gV h0 h9 bm [] [] {M with ag:=fs++[{f with pc:=n}]} B9->Ev h h9 (bm::B) (bm::B9)->K h9):St h bf (off+1) [.int .i64 n] K:=by
 obtain⟨tt,qt,rt,vt1,vt2,z1,zb,zq,z2,acp⟩:=hS.v8;refine lP zb (i:=1) [.int .i64 f.U,.int .i64 n,vt1,vt2] (by omega) (by simp) rfl (λh9 OK _=>?_);obtain⟨B9,mJ,mK⟩:=acp n;rw[<-OK]at mJ mK;exact hk h9 B9 mJ mK
theorem y8 {h h':Heap} {b:Nat} (e:h' b=h b):∀(n off:Nat),fj h' b off n=fj h b off n
 | 0,_=>rfl
 | n+1,off=>by
  have:rd h' b off=rd h b off:=by unfold rd;rw[e]
  simp only[fj,this,y8 e n]
theorem cr.blk {h:Heap} {n c b:Nat} {l:List Vl} {B:List Nat} (ho:cj h (.slice (some ⟨b,0,none⟩) n c) l B):b∈B/\h b≠none:=by
 obtain⟨_,⟨he,_,_⟩|⟨b',c',rest,t,he,_,hb,_,rfl⟩⟩:=ho
 ·cases he
 ·simp only[Z_,v_,Addr.mk.injEq,and_true]at he;rw[he.1];simp[hb]
theorem oR {objs:List Ob} {f:bQ} {said:List Int} {v:Vl} (h:f.stack.length < 4):fA objs f said v=.ok (objs,{f with stack:=f.stack++[v]},said,false):=by simp[fA,dH,h]
theorem mL {objs:List Ob} {f:bQ} {said:List Int} {v:Vl} (h:4<=f.stack.length):fA objs f said v=.error 0:=by
 unfold fA dH;rw[if_neg (by omega)]
theorem eY {u:aO} {fs:List bQ} {f:bQ} {M:bM} {x:ez} {aR rest:List Vl} (AW:¬((aV u f.U).code.length:Int)<=f.pc) (hx:(aV u f.U).code.getD f.pc.toNat ep=x) (ht:ee u x f.stack=some (aR,rest)) (hk:¬(20<=x.kind/\x.kind<=23)) :
  kD u fs f M=(match gG u x aR M.objs {f with stack:=rest} M.said with
   | .error e=>.error e
   | .ok (objs,g,said,kq)=>.ok {M with objs:=objs,said:=said,ag:=fs++[{g with pc:=if kq then x.a else f.pc+1}]}):=by
 unfold kD;simp only[if_neg AW,hx,ht,if_neg hk]<;>rfl
theorem sL {u:aO} {fs:List bQ} {f:bQ} {M:bM} {x:ez} {aR rest:List Vl} (AW:¬((aV u f.U).code.length:Int)<=f.pc) (hx:(aV u f.U).code.getD f.pc.toNat ep=x) (ht:ee u x f.stack=some (aR,rest)) (hk:20<=x.kind/\x.kind<=23) :
  kD u fs f M=gW u x aR fs {M with ag:=fs++[{f with stack:=rest}]}:=by
 unfold kD;simp only[if_neg AW,hx,ht,if_pos hk]
set_option maxHeartbeats 40000000
theorem qF (h0 h:Heap) (bs bm bf off:Nat) (u:aO) (fs:List bQ) (f:bQ) (M:bM) (B:List Nat) (a b k:Int) (hk:k=1\/k=2\/k=3\/k=4\/k=5\/k=6\/k=7\/k=8\/k=9\/k=10\/k=11\/k=12) (hS:lB h0 h bs bm bf off u (aV u f.U) fs f M B) (hu:cz u) (hI:IX u M) (gp:¬((aV u f.U).code.length:Int)<=f.pc) (jW:(aV u f.U).code.getD f.pc.toNat ep=⟨k,a,b⟩) :
  cZ prog 119 [.pointer (some ⟨bs,0,none⟩)] h (qk h0 h bm B (kD u fs f M)):=by
 have Fq:f∈M.ag:=by rw[hS.ag];simp
 have hF:=hI.iN f Fq;have QN:=hu.2.2.2.1 _ (iV hF.U);have ok:=hu.1;obtain⟨Gh,Y3⟩:=hF.pc;have Sn:=QN.2.1.2.1;obtain⟨r1,r2,_,p,cc,q,d,D6,r9,iM,R9,p2,c2,r6,oT⟩:=hS.mp;obtain⟨t0,q0,rr0,v10,v20,_,Y4,qL,s1,_⟩:=hS.v8;have bV:f.pc.toNat < (aV u f.U).code.length:=by omega
 have NF:(aV u f.U).code[f.pc.toNat]=⟨k,a,b⟩:=by rw[<-jW];simp[bV]
 have e:=oT.get bV;rw[NF]at e;obtain⟨bb,oo,xs,wA,e1,e2,e3,e4,e5⟩:=e;subst e2;have Dh:fj h bb (oo+f.pc.toNat*3) 3=some [.int .i64 k,.int .i64 a,.int .i64 b]:=bK hS.ma.le e1;have lQ:=QN.2.1.2.2.2.1 _ (x_ bV);rw[NF]at lQ;refine outs au func119 Ou KA rfl ?_;conv=>whnf
 repeat' ((first|refine ld r1 ?_|refine ld s1 ?_|refine ld r6 ?_|refine aq ?_|refine ah ?_|refine ptr ?_)<;>conv=>whnf)
 refine cM gp ?_;conv=>whnf
 repeat' ((first|refine ld r1 ?_|refine ld s1 ?_|refine ld r6 ?_|refine aG wA ?_|refine dJ Dh ?_|refine aq ?_|refine ah ?_|refine ptr ?_)<;>conv=>whnf)
 refine dK (K6 h0 h bs bm bf off u _ fs f M B ⟨k,a,b⟩ hS (eU.ok hu lQ) (by have:=hF.cP;omega)) ?_ ?_;rotate_left
 ·rintro c h' ⟨k1,k2,k3⟩;refine⟨0,?_,k2,k3⟩;unfold kD;simp only[if_neg gp,jW,k1]
 rintro vt h1 ⟨aR,rest,uD,B1,Bt,gq,gh,ot,jV⟩;obtain⟨ws,m3,lZ,eP,eB⟩:=kJ uD;have Lh:rest.length<=4:=by have:=hF.cP;rw[eB]at this;simp at this;omega
 have Ft:∀ v∈aR,v.ref=true->0<=v.n/\v.n<=M.objs.length:=λv hv=>hF.vs v (by rw[eB];simp[hv]);rcases hk with rfl|rfl|rfl|rfl|rfl|rfl|rfl|rfl|rfl|rfl|rfl|rfl
 ·have hi:=(aI (u:=u) (m:=aV u f.U) (a:=a) (b:=b) (k:=1) rfl).1 lQ;obtain⟨pt,ct,rfl,_⟩:=ot.form;obtain⟨t1,q1,y9,v11,za,w1,m7,s9,w2,_⟩:=gq.v8;have w2:rd h1 bf (off+1)=some (.int .i64 f.pc):=w2;have iz:∀ b∈Bt,b ∉ bm::B1/\b≠bs:=λb hb=>⟨(jV b hb).1,(jV b hb).2.1⟩
  have iW:=eY (fs:=fs) (M:=M) gp jW uD (by simp);conv=>whnf
  repeat' ((first|refine ld w1 ?_|refine ld w2 ?_|refine aq ?_|refine ah ?_|refine ptr ?_)<;>conv=>whnf)
  refine dK (qg h0 h1 bs bm bf off u _ fs _ _ B1 ⟨false,a⟩ gq) ?_ ?_
  ·rintro vv h2 ⟨k1,B2,lN,iE⟩;conv=>whnf
   first|refine lN.y7 ?_|skip
   conv=>whnf
   refine lN.kr (λh9 B9 mJ mK=>?_);conv=>whnf
   exact⟨_,(by rw[iW];rw[show gG u ⟨1,a,b⟩ aR M.objs {f with stack:=rest} M.said=fA M.objs {f with stack:=rest} M.said ⟨false,a⟩from rfl];rw[oR k1];rfl),B9,mJ,gh.trans (iE.trans mK)⟩
  ·rintro c h2 ⟨k1,k2,k3⟩;exact⟨0,by rw[iW];rw[show gG u ⟨1,a,b⟩ aR M.objs {f with stack:=rest} M.said=fA M.objs {f with stack:=rest} M.said ⟨false,a⟩from rfl];rw[mL k1],k2,k3⟩
 ·have hi:=(aI (u:=u) (m:=aV u f.U) (a:=a) (b:=b) (k:=2) rfl).1 lQ;obtain⟨pt,ct,rfl,_⟩:=ot.form;obtain⟨t1,q1,y9,v11,za,w1,m7,s9,w2,_⟩:=gq.v8;have w2:rd h1 bf (off+1)=some (.int .i64 f.pc):=w2;have iz:∀ b∈Bt,b ∉ bm::B1/\b≠bs:=λb hb=>⟨(jV b hb).1,(jV b hb).2.1⟩
  have iW:=eY (fs:=fs) (M:=M) gp jW uD (by simp);conv=>whnf
  repeat' ((first|refine ld w1 ?_|refine ld w2 ?_|refine aq ?_|refine ah ?_|refine ptr ?_)<;>conv=>whnf)
  refine aj (nQ _ _) ?_;conv=>whnf
  refine dK (qg h0 h1 bs bm bf off u _ fs _ _ B1 ⟨true,0⟩ gq) ?_ ?_
  ·rintro vv h2 ⟨k1,B2,lN,iE⟩;conv=>whnf
   first|refine lN.y7 ?_|skip
   conv=>whnf
   refine lN.kr (λh9 B9 mJ mK=>?_);conv=>whnf
   exact⟨_,(by rw[iW];rw[show gG u ⟨2,a,b⟩ aR M.objs {f with stack:=rest} M.said=fA M.objs {f with stack:=rest} M.said ⟨true,0⟩from rfl];rw[oR k1];rfl),B9,mJ,gh.trans (iE.trans mK)⟩
  ·rintro c h2 ⟨k1,k2,k3⟩;exact⟨0,by rw[iW];rw[show gG u ⟨2,a,b⟩ aR M.objs {f with stack:=rest} M.said=fA M.objs {f with stack:=rest} M.said ⟨true,0⟩from rfl];rw[mL k1],k2,k3⟩
 ·have hi:=(aI (u:=u) (m:=aV u f.U) (a:=a) (b:=b) (k:=3) rfl).1 lQ;obtain⟨pt,ct,rfl,_⟩:=ot.form;obtain⟨t1,q1,y9,v11,za,w1,m7,s9,w2,_⟩:=gq.v8;have w2:rd h1 bf (off+1)=some (.int .i64 f.pc):=w2;have iz:∀ b∈Bt,b ∉ bm::B1/\b≠bs:=λb hb=>⟨(jV b hb).1,(jV b hb).2.1⟩
  have iW:=eY (fs:=fs) (M:=M) gp jW uD (by simp);have ha:=hi.1;simp[bz]at ha;have mX:=hF.loc;have Y5:a.toNat < f.locals.length:=by omega
  obtain⟨vl,Bl,l1,ol⟩:=gq.aco;have ol:cj h1 vl f.locals Bl:=ol;obtain⟨pl,cl,rfl,_⟩:=ol.form;have uj:0 < f.locals.length:=by omega
  have e9:=ol.all uj;obtain⟨bl,hql,QO,eI⟩:=e9;have QO:(List.map bR f.locals).length=f.locals.length:=QO;have nl:fj h1 bl (0+a.toNat*2) 2=some (bR f.locals[a.toNat]):=(eI a.toNat Y5).1;conv=>whnf
  repeat' ((first|refine ld w1 ?_|refine ld w2 ?_|refine aq ?_|refine ah ?_|refine ptr ?_)<;>conv=>whnf)
  repeat' ((first|refine ld w1 ?_|refine ld l1 ?_|refine aG hql ?_|refine dJ nl ?_|refine aq ?_|refine ah ?_|refine ptr ?_)<;>conv=>whnf)
  have gH:gG u ⟨3,a,b⟩ aR M.objs {f with stack:=rest} M.said=fA M.objs {f with stack:=rest} M.said f.locals[a.toNat]:=by
   show fA _ _ _ (f.locals.getD a.toNat cU)=_;rw[sI Y5]
  refine dK (qg h0 h1 bs bm bf off u _ fs _ _ B1 f.locals[a.toNat] gq) ?_ ?_
  ·rintro vv h2 ⟨k1,B2,lN,iE⟩;conv=>whnf
   first|refine lN.y7 ?_|skip
   conv=>whnf
   refine lN.kr (λh9 B9 mJ mK=>?_);conv=>whnf
   exact⟨_,(by rw[iW,gH,oR k1];rfl),B9,mJ,gh.trans (iE.trans mK)⟩
  ·rintro c h2 ⟨k1,k2,k3⟩;exact⟨0,by rw[iW,gH,mL k1],k2,k3⟩
 ·have hi:=(aI (u:=u) (m:=aV u f.U) (a:=a) (b:=b) (k:=4) rfl).1 lQ;have qG:ws=[0]:=by simpa [di]using m3.symm
  rw[qG]at lZ eP;obtain⟨v0,rfl⟩:=gu lZ;obtain⟨pt,ct,rfl,_⟩:=ot.form;obtain⟨t1,q1,y9,v11,za,w1,m7,s9,w2,_⟩:=gq.v8;have w2:rd h1 bf (off+1)=some (.int .i64 f.pc):=w2;have iz:∀ b∈Bt,b ∉ bm::B1/\b≠bs:=λb hb=>⟨(jV b hb).1,(jV b hb).2.1⟩
  have iW:=eY (fs:=fs) (M:=M) gp jW uD (by simp);have vp:(List.map bR [v0]).length=1:=rfl;have uj:0 < List.length [v0]:=by simp
  have e9:=ot.all uj;obtain⟨b0,Gi,_,eI⟩:=e9;have n0:=(eI 0 (by simp)).1;have m0:=(eI 0 (by simp)).2;simp only[List.getElem_cons_zero,List.getElem_cons_succ]at n0 m0;have ha:=hi.1;simp[bz]at ha;have mX:=hF.loc;have Y5:a.toNat < f.locals.length:=by omega
  obtain⟨tl,ql,rl,vl1,acq,Bl1,Bl2,td,adI,ol1,ol2,ndl,_,acr,adJ,adK,acs⟩:=gq.lens;have ol1:cj h1 vl1 f.locals Bl1:=ol1;obtain⟨pl,cl,rfl,_⟩:=ol1.form;have l1:rd h1 bf (off+2)=some (.slice pl (List.map bR f.locals).length cl):=bE td (i:=2) (by omega) rfl;obtain⟨bl,pre,xx,post,tt0,fV,QO,uC,QS,Ae,rfl,Cy⟩:=cr.put (l:=f.locals) ol1 Y5;conv=>whnf
  repeat' ((first|refine ld w1 ?_|refine ld w2 ?_|refine aq ?_|refine ah ?_|refine ptr ?_)<;>conv=>whnf)
  repeat' ((first|refine ld w1 ?_|refine ld l1 ?_|refine aG fV ?_|refine aG Gi ?_|refine dJ n0 ?_|refine aq ?_|refine ah ?_|refine ptr ?_)<;>conv=>whnf)
  refine Ag uC (pre++bR v0++post) (by simp[Ae,bR,QS]<;>omega) (m4 (by rw[QS];show 0+a.toNat*2=a.toNat*2;omega) (by rw[Ae];rfl)) (λh2 iD tY=>?_);have Y6:bl≠bf:=(acr bl (by simp)).1;obtain⟨B2,lN,iE⟩:=acs h2 {f with stack:=rest,locals:=f.locals.set a.toNat v0} (.slice pl (List.map bR f.locals).length cl) acq [bl] Bl2 (by rw[iD];simp only[Heap.set,Ne.symm Y6,if_false];exact td)
   (λx hx hn=>by rw[iD];simp only[Heap.set];rw[if_neg (λhy=>hx (by simp[hy]))])
   (Cy h2 v0 tY)
   (ol2.aJ λx hx o ho=>by
    have So:x≠bl:=by
     rintro rfl;have:=ndl x;have:=W_.2 hx;simp only[Y_,X_,beq_self_eq_true,if_true]at *;omega
    rw[iD];simp only[Heap.set,So,if_false];exact ho)
   (λx hx=>.inl hx) ndl
  conv=>whnf
  first|refine lN.y7 ?_|skip
  conv=>whnf
  refine lN.kr (λh9 B9 mJ mK=>?_);conv=>whnf
  exact⟨_,(by rw[iW];rfl),B9,mJ,gh.trans (iE.trans mK)⟩
 ·have hi:=(aI (u:=u) (m:=aV u f.U) (a:=a) (b:=b) (k:=5) rfl).1 lQ;obtain⟨pt,ct,rfl,_⟩:=ot.form;obtain⟨t1,q1,y9,v11,za,w1,m7,s9,w2,_⟩:=gq.v8;have w2:rd h1 bf (off+1)=some (.int .i64 f.pc):=w2;have iz:∀ b∈Bt,b ∉ bm::B1/\b≠bs:=λb hb=>⟨(jV b hb).1,(jV b hb).2.1⟩
  have iW:=eY (fs:=fs) (M:=M) gp jW uD (by simp);conv=>whnf
  repeat' ((first|refine ld w1 ?_|refine ld w2 ?_|refine aq ?_|refine ah ?_|refine ptr ?_)<;>conv=>whnf)
  first|refine gq.y7 ?_|skip
  conv=>whnf
  refine gq.kr (λh9 B9 mJ mK=>?_);conv=>whnf
  exact⟨_,(by rw[iW];rfl),B9,mJ,gh.trans mK⟩
 ·have hi:=(aI (u:=u) (m:=aV u f.U) (a:=a) (b:=b) (k:=6) rfl).1 lQ;have qG:ws=[0]:=by simpa [di]using m3.symm
  rw[qG]at lZ eP;obtain⟨v0,rfl⟩:=gu lZ;obtain⟨pt,ct,rfl,_⟩:=ot.form;obtain⟨t1,q1,y9,v11,za,w1,m7,s9,w2,_⟩:=gq.v8;have w2:rd h1 bf (off+1)=some (.int .i64 f.pc):=w2;have iz:∀ b∈Bt,b ∉ bm::B1/\b≠bs:=λb hb=>⟨(jV b hb).1,(jV b hb).2.1⟩
  have iW:=eY (fs:=fs) (M:=M) gp jW uD (by simp);have vp:(List.map bR [v0]).length=1:=rfl;have uj:0 < List.length [v0]:=by simp
  have e9:=ot.all uj;obtain⟨b0,Gi,_,eI⟩:=e9;have n0:=(eI 0 (by simp)).1;have m0:=(eI 0 (by simp)).2;simp only[List.getElem_cons_zero,List.getElem_cons_succ]at n0 m0;have tZ:=cr.blk (b:=b0) (by rw[Gi]at ot;exact ot);conv=>whnf
  repeat' ((first|refine ld w1 ?_|refine ld w2 ?_|refine aq ?_|refine ah ?_|refine ptr ?_)<;>conv=>whnf)
  repeat' ((first|refine aG Gi ?_|refine dJ n0 ?_|refine aq ?_|refine ah ?_|refine ptr ?_)<;>conv=>whnf)
  have NG:rest.length < 4->gG u ⟨6,a,b⟩ [v0] M.objs {f with stack:=rest} M.said=fA M.objs {f with stack:=rest++[v0]} M.said v0:=by
   intro h;show(match dH M.objs {f with stack:=rest} v0 with | .ok (_,g)=>fA M.objs g M.said v0 | .error e=>.error e)=_;rw[dH,if_pos h]
  have Ga:4<=rest.length->gG u ⟨6,a,b⟩ [v0] M.objs {f with stack:=rest} M.said=.error 0:=by
   intro h;show(match dH M.objs {f with stack:=rest} v0 with | .ok (_,g)=>fA M.objs g M.said v0 | .error e=>.error e)=_;rw[dH,if_neg (by show ¬rest.length < 4;omega)]
  refine dK (qg h0 h1 bs bm bf off u _ fs _ _ B1 v0 gq) ?_ ?_
  ·rintro vv h2 ⟨k1,B2,lN,iE⟩;have n02:=(y8 (iE.iB b0 tZ.2 (iz b0 tZ.1).1) 2 (0+0*2)).trans n0;conv=>whnf
   repeat' ((first|refine aG Gi ?_|refine dJ n02 ?_|refine aq ?_|refine ah ?_|refine ptr ?_)<;>conv=>whnf)
   refine dK (qg h0 h2 bs bm bf off u _ fs _ _ B2 v0 lN) ?_ ?_
   ·rintro vv h3 ⟨k4,B3,NB,sY⟩;conv=>whnf
    first|refine NB.y7 ?_|skip
    conv=>whnf
    refine NB.kr (λh9 B9 mJ mK=>?_);conv=>whnf
    exact⟨_,(by rw[iW,NG k1,oR k4];rfl),B9,mJ,gh.trans (iE.trans (sY.trans mK))⟩
   ·rintro c h3 ⟨k4,k5,k6⟩;exact⟨0,by rw[iW,NG k1,mL k4],k5,k6⟩
  ·rintro c h2 ⟨k1,k2,k3⟩;exact⟨0,by rw[iW,Ga k1],k2,k3⟩
 ·have hi:=(aI (u:=u) (m:=aV u f.U) (a:=a) (b:=b) (k:=7) rfl).1 lQ;have qG:ws=[1,1]:=by simpa [di]using m3.symm
  rw[qG]at lZ eP;obtain⟨v0,v1,rfl⟩:=uh lZ;obtain⟨pt,ct,rfl,_⟩:=ot.form;obtain⟨t1,q1,y9,v11,za,w1,m7,s9,w2,_⟩:=gq.v8;have w2:rd h1 bf (off+1)=some (.int .i64 f.pc):=w2;have iz:∀ b∈Bt,b ∉ bm::B1/\b≠bs:=λb hb=>⟨(jV b hb).1,(jV b hb).2.1⟩
  have iW:=eY (fs:=fs) (M:=M) gp jW uD (by simp);have vp:(List.map bR [v0,v1]).length=2:=rfl;have uj:0 < List.length [v0,v1]:=by simp
  have e9:=ot.all uj;obtain⟨b0,Gi,_,eI⟩:=e9;have n0:=(eI 0 (by simp)).1;have m0:=(eI 0 (by simp)).2;have n1:=(eI 1 (by simp)).1;have m1:=(eI 1 (by simp)).2;simp only[List.getElem_cons_zero,List.getElem_cons_succ]at n0 m0 n1 m1;conv=>whnf
  repeat' ((first|refine ld w1 ?_|refine ld w2 ?_|refine aq ?_|refine ah ?_|refine ptr ?_)<;>conv=>whnf)
  repeat' ((first|refine aG Gi ?_|refine ld m0 ?_|refine ld m1 ?_|refine aq ?_|refine ah ?_|refine ptr ?_)<;>conv=>whnf)
  have gH:gG u ⟨7,a,b⟩ [v0,v1] M.objs {f with stack:=rest} M.said=(if (iJ a v0.n v1.n).2 then fA M.objs {f with stack:=rest} M.said ⟨false,(iJ a v0.n v1.n).1⟩else .error 1):=rfl;refine aK (KH a v0.n v1.n h1) ?_;unfold Ue;conv=>whnf
  apply cJ<;>intro g;all_goals conv=>whnf
  ·exact⟨1,by rw[iW,gH,g];rfl,rfl,gq.ma.pn⟩
  ·rw[g]at gH;refine dK (qg h0 h1 bs bm bf off u _ fs _ _ B1 ⟨false,(iJ a v0.n v1.n).1⟩ gq) ?_ ?_
   ·rintro vv h2 ⟨k1,B2,lN,iE⟩;conv=>whnf
    first|refine lN.y7 ?_|skip
    conv=>whnf
    refine lN.kr (λh9 B9 mJ mK=>?_);conv=>whnf
    exact⟨_,(by rw[iW,gH,if_pos rfl,oR k1];rfl),B9,mJ,gh.trans (iE.trans mK)⟩
   ·rintro c h2 ⟨k1,k2,k3⟩;exact⟨0,by rw[iW,gH,if_pos rfl,mL k1],k2,k3⟩
 ·have hi:=(aI (u:=u) (m:=aV u f.U) (a:=a) (b:=b) (k:=8) rfl).1 lQ;have qG:ws=[1,1]:=by simpa [di]using m3.symm
  rw[qG]at lZ eP;obtain⟨v0,v1,rfl⟩:=uh lZ;obtain⟨pt,ct,rfl,_⟩:=ot.form;obtain⟨t1,q1,y9,v11,za,w1,m7,s9,w2,_⟩:=gq.v8;have w2:rd h1 bf (off+1)=some (.int .i64 f.pc):=w2;have iz:∀ b∈Bt,b ∉ bm::B1/\b≠bs:=λb hb=>⟨(jV b hb).1,(jV b hb).2.1⟩
  have iW:=eY (fs:=fs) (M:=M) gp jW uD (by simp);have vp:(List.map bR [v0,v1]).length=2:=rfl;have uj:0 < List.length [v0,v1]:=by simp
  have e9:=ot.all uj;obtain⟨b0,Gi,_,eI⟩:=e9;have n0:=(eI 0 (by simp)).1;have m0:=(eI 0 (by simp)).2;have n1:=(eI 1 (by simp)).1;have m1:=(eI 1 (by simp)).2;simp only[List.getElem_cons_zero,List.getElem_cons_succ]at n0 m0 n1 m1;conv=>whnf
  repeat' ((first|refine ld w1 ?_|refine ld w2 ?_|refine aq ?_|refine ah ?_|refine ptr ?_)<;>conv=>whnf)
  repeat' ((first|refine aG Gi ?_|refine ld m0 ?_|refine ld m1 ?_|refine aq ?_|refine ah ?_|refine ptr ?_)<;>conv=>whnf)
  have gH:gG u ⟨8,a,b⟩ [v0,v1] M.objs {f with stack:=rest} M.said=.ok (M.objs,{f with stack:=rest},M.said,decide (v0.n < v1.n)):=rfl;apply ax<;>intro g;all_goals conv=>whnf
  ·rw[decide_eq_true g]at gH;first|refine gq.y7 ?_|skip
   conv=>whnf
   refine gq.kr (λh9 B9 mJ mK=>?_);conv=>whnf
   exact⟨_,(by rw[iW,gH];rfl),B9,mJ,gh.trans mK⟩
  ·rw[decide_eq_false g]at gH;first|refine gq.y7 ?_|skip
   conv=>whnf
   refine gq.kr (λh9 B9 mJ mK=>?_);conv=>whnf
   exact⟨_,(by rw[iW,gH];rfl),B9,mJ,gh.trans mK⟩
 ·have hi:=(aI (u:=u) (m:=aV u f.U) (a:=a) (b:=b) (k:=9) rfl).1 lQ;have qG:ws=[1,1]:=by simpa [di]using m3.symm
  rw[qG]at lZ eP;obtain⟨v0,v1,rfl⟩:=uh lZ;obtain⟨pt,ct,rfl,_⟩:=ot.form;obtain⟨t1,q1,y9,v11,za,w1,m7,s9,w2,_⟩:=gq.v8;have w2:rd h1 bf (off+1)=some (.int .i64 f.pc):=w2;have iz:∀ b∈Bt,b ∉ bm::B1/\b≠bs:=λb hb=>⟨(jV b hb).1,(jV b hb).2.1⟩
  have iW:=eY (fs:=fs) (M:=M) gp jW uD (by simp);have vp:(List.map bR [v0,v1]).length=2:=rfl;have uj:0 < List.length [v0,v1]:=by simp
  have e9:=ot.all uj;obtain⟨b0,Gi,_,eI⟩:=e9;have n0:=(eI 0 (by simp)).1;have m0:=(eI 0 (by simp)).2;have n1:=(eI 1 (by simp)).1;have m1:=(eI 1 (by simp)).2;simp only[List.getElem_cons_zero,List.getElem_cons_succ]at n0 m0 n1 m1;conv=>whnf
  repeat' ((first|refine ld w1 ?_|refine ld w2 ?_|refine aq ?_|refine ah ?_|refine ptr ?_)<;>conv=>whnf)
  repeat' ((first|refine aG Gi ?_|refine ld m0 ?_|refine ld m1 ?_|refine aq ?_|refine ah ?_|refine ptr ?_)<;>conv=>whnf)
  have gH:gG u ⟨9,a,b⟩ [v0,v1] M.objs {f with stack:=rest} M.said=.ok (M.objs,{f with stack:=rest},M.said,decide (v0.n=v1.n)):=rfl;apply ax<;>intro g;all_goals conv=>whnf
  ·rw[decide_eq_true g]at gH;first|refine gq.y7 ?_|skip
   conv=>whnf
   refine gq.kr (λh9 B9 mJ mK=>?_);conv=>whnf
   exact⟨_,(by rw[iW,gH];rfl),B9,mJ,gh.trans mK⟩
  ·rw[decide_eq_false g]at gH;first|refine gq.y7 ?_|skip
   conv=>whnf
   refine gq.kr (λh9 B9 mJ mK=>?_);conv=>whnf
   exact⟨_,(by rw[iW,gH];rfl),B9,mJ,gh.trans mK⟩
 ·have hi:=(aI (u:=u) (m:=aV u f.U) (a:=a) (b:=b) (k:=10) rfl).1 lQ;have qG:ws=[2]:=by simpa [di]using m3.symm
  rw[qG]at lZ eP;obtain⟨v0,rfl⟩:=gu lZ;obtain⟨pt,ct,rfl,_⟩:=ot.form;obtain⟨t1,q1,y9,v11,za,w1,m7,s9,w2,_⟩:=gq.v8;have w2:rd h1 bf (off+1)=some (.int .i64 f.pc):=w2;have iz:∀ b∈Bt,b ∉ bm::B1/\b≠bs:=λb hb=>⟨(jV b hb).1,(jV b hb).2.1⟩
  have iW:=eY (fs:=fs) (M:=M) gp jW uD (by simp);have vp:(List.map bR [v0]).length=1:=rfl;have uj:0 < List.length [v0]:=by simp
  have e9:=ot.all uj;obtain⟨b0,Gi,_,eI⟩:=e9;have n0:=(eI 0 (by simp)).1;have m0:=(eI 0 (by simp)).2;simp only[List.getElem_cons_zero,List.getElem_cons_succ]at n0 m0;conv=>whnf
  repeat' ((first|refine ld w1 ?_|refine ld w2 ?_|refine aq ?_|refine ah ?_|refine ptr ?_)<;>conv=>whnf)
  repeat' ((first|refine aG Gi ?_|refine ld m0 ?_|refine aq ?_|refine ah ?_|refine ptr ?_)<;>conv=>whnf)
  have gH:gG u ⟨10,a,b⟩ [v0] M.objs {f with stack:=rest} M.said=.ok (M.objs,{f with stack:=rest},M.said,decide (v0.n=0)):=rfl;apply ax<;>intro g;all_goals conv=>whnf
  ·rw[decide_eq_true g]at gH;first|refine gq.y7 ?_|skip
   conv=>whnf
   refine gq.kr (λh9 B9 mJ mK=>?_);conv=>whnf
   exact⟨_,(by rw[iW,gH];rfl),B9,mJ,gh.trans mK⟩
  ·rw[decide_eq_false g]at gH;first|refine gq.y7 ?_|skip
   conv=>whnf
   refine gq.kr (λh9 B9 mJ mK=>?_);conv=>whnf
   exact⟨_,(by rw[iW,gH];rfl),B9,mJ,gh.trans mK⟩
 ·have hi:=(aI (u:=u) (m:=aV u f.U) (a:=a) (b:=b) (k:=11) rfl).1 lQ;obtain⟨pt,ct,rfl,_⟩:=ot.form;obtain⟨t1,q1,y9,v11,za,w1,m7,s9,w2,_⟩:=gq.v8;have w2:rd h1 bf (off+1)=some (.int .i64 f.pc):=w2;have iz:∀ b∈Bt,b ∉ bm::B1/\b≠bs:=λb hb=>⟨(jV b hb).1,(jV b hb).2.1⟩
  have iW:=eY (fs:=fs) (M:=M) gp jW uD (by simp);conv=>whnf
  repeat' ((first|refine ld w1 ?_|refine ld w2 ?_|refine aq ?_|refine ah ?_|refine ptr ?_)<;>conv=>whnf)
  first|refine gq.y7 ?_|skip
  conv=>whnf
  refine gq.kr (λh9 B9 mJ mK=>?_);conv=>whnf
  exact⟨_,(by rw[iW];rfl),B9,mJ,gh.trans mK⟩
 ·have hi:=(aI (u:=u) (m:=aV u f.U) (a:=a) (b:=b) (k:=12) rfl).1 lQ;have qG:ws=[]:=by simpa [di]using m3.symm
  rw[qG]at lZ eP;obtain rfl:=Sm lZ;obtain⟨pt,ct,rfl,_⟩:=ot.form;obtain⟨t1,q1,y9,v11,za,w1,m7,s9,w2,_⟩:=gq.v8;have w2:rd h1 bf (off+1)=some (.int .i64 f.pc):=w2;have iz:∀ b∈Bt,b ∉ bm::B1/\b≠bs:=λb hb=>⟨(jV b hb).1,(jV b hb).2.1⟩
  have iW:=eY (fs:=fs) (M:=M) gp jW uD (by simp);have Gj:qD u ⟨12,a,b⟩ [] M.objs.length:=⟨λhx=>absurd hx (by simp),λhx=>absurd hx (by simp),λhx=>absurd hx (by simp),λhx=>absurd hx (by simp),λhx=>absurd hx (by simp),λhx=>absurd hx (by simp),λhx=>absurd hx (by simp),Ft⟩
  have zd:=hi;simp[bz]at zd;have vq:M.objs.length<=900:=by have:=hI.len;omega
  have bX:=iL h0 h1 bs bm bf off u _ fs _ _ B1 ⟨12,a,b⟩ [] _ Bt gq ot iz ok (by simp) vq hI.objs Gj (by simp;omega) (by simp) (by simp);have gH:gG u ⟨12,a,b⟩ [] M.objs {f with stack:=rest} M.said=(match bD u ⟨12,a,b⟩ [] M.objs {f with stack:=rest}with | .ok (o,g)=>.ok (o,g,M.said,false) | .error e=>.error e):=rfl;rw[gH]at iW;have uk:∀ dL f2,bD u ⟨12,a,b⟩ [] M.objs {f with stack:=rest}=.ok (dL,f2)->kD u fs f M=.ok {M with objs:=dL,ag:=fs++[{f2 with pc:=f.pc+1}]}:=by
   intro dL f2 dW;rw[iW,dW];rfl
  have m8:∀ e,bD u ⟨12,a,b⟩ [] M.objs {f with stack:=rest}=.error e->kD u fs f M=.error e:=by
   intro e dW;rw[iW,dW]
  conv=>whnf
  repeat' ((first|refine ld w1 ?_|refine ld w2 ?_|refine aq ?_|refine ah ?_|refine ptr ?_)<;>conv=>whnf)
  refine dK bX ?_ ?_
  ·rintro vv h2 ⟨dL,f2,dW,B2,lN,iE⟩;have jv:=uk dL f2 dW;conv=>whnf
   first|refine lN.y7 ?_|skip
   conv=>whnf
   refine lN.kr (λh9 B9 mJ mK=>?_);conv=>whnf
   exact⟨_,jv,B9,mJ,gh.trans (iE.trans mK)⟩
  ·rintro c h2 ⟨k,k1,k2,k3⟩;exact⟨k,m8 k k1,k2,k3⟩
theorem qH (h0 h:Heap) (bs bm bf off:Nat) (u:aO) (fs:List bQ) (f:bQ) (M:bM) (B:List Nat) (a b k:Int) (hk:k=13\/k=14\/k=15\/k=16\/k=17\/k=18\/k=19\/k=20\/k=21\/k=22\/k=23\/k=24) (hS:lB h0 h bs bm bf off u (aV u f.U) fs f M B) (hu:cz u) (hI:IX u M) (gp:¬((aV u f.U).code.length:Int)<=f.pc) (jW:(aV u f.U).code.getD f.pc.toNat ep=⟨k,a,b⟩)
  (hsend:k=21->∀(aR rest:List Vl) (c:Int),ee u ⟨k,a,b⟩ f.stack=some (aR,rest)->c < u.J.length->up u.J c a=true->0<=find u c b/\((aR.length:Int)<=(aV u (find u c b)).locals/\(aV u (find u c b)).locals<=3)) :
  cZ prog 119 [.pointer (some ⟨bs,0,none⟩)] h (qk h0 h bm B (kD u fs f M)):=by
 have Fq:f∈M.ag:=by rw[hS.ag];simp
 have hF:=hI.iN f Fq;have QN:=hu.2.2.2.1 _ (iV hF.U);have ok:=hu.1;obtain⟨Gh,Y3⟩:=hF.pc;have Sn:=QN.2.1.2.1;obtain⟨r1,r2,_,p,cc,q,d,D6,r9,iM,R9,p2,c2,r6,oT⟩:=hS.mp;obtain⟨t0,q0,rr0,v10,v20,_,Y4,qL,s1,_⟩:=hS.v8;have bV:f.pc.toNat < (aV u f.U).code.length:=by omega
 have NF:(aV u f.U).code[f.pc.toNat]=⟨k,a,b⟩:=by rw[<-jW];simp[bV]
 have e:=oT.get bV;rw[NF]at e;obtain⟨bb,oo,xs,wA,e1,e2,e3,e4,e5⟩:=e;subst e2;have Dh:fj h bb (oo+f.pc.toNat*3) 3=some [.int .i64 k,.int .i64 a,.int .i64 b]:=bK hS.ma.le e1;have lQ:=QN.2.1.2.2.2.1 _ (x_ bV);rw[NF]at lQ;refine outs au func119 Ou KA rfl ?_;conv=>whnf
 repeat' ((first|refine ld r1 ?_|refine ld s1 ?_|refine ld r6 ?_|refine aq ?_|refine ah ?_|refine ptr ?_)<;>conv=>whnf)
 refine cM gp ?_;conv=>whnf
 repeat' ((first|refine ld r1 ?_|refine ld s1 ?_|refine ld r6 ?_|refine aG wA ?_|refine dJ Dh ?_|refine aq ?_|refine ah ?_|refine ptr ?_)<;>conv=>whnf)
 refine dK (K6 h0 h bs bm bf off u _ fs f M B ⟨k,a,b⟩ hS (eU.ok hu lQ) (by have:=hF.cP;omega)) ?_ ?_;rotate_left
 ·rintro c h' ⟨k1,k2,k3⟩;refine⟨0,?_,k2,k3⟩;unfold kD;simp only[if_neg gp,jW,k1]
 rintro vt h1 ⟨aR,rest,uD,B1,Bt,gq,gh,ot,jV⟩;obtain⟨ws,m3,lZ,eP,eB⟩:=kJ uD;have Lh:rest.length<=4:=by have:=hF.cP;rw[eB]at this;simp at this;omega
 have Ft:∀ v∈aR,v.ref=true->0<=v.n/\v.n<=M.objs.length:=λv hv=>hF.vs v (by rw[eB];simp[hv]);rcases hk with rfl|rfl|rfl|rfl|rfl|rfl|rfl|rfl|rfl|rfl|rfl|rfl
 ·have hi:=(aI (u:=u) (m:=aV u f.U) (a:=a) (b:=b) (k:=13) rfl).1 lQ;have qG:ws=[1]:=by simpa [di]using m3.symm
  rw[qG]at lZ eP;obtain⟨v0,rfl⟩:=gu lZ;obtain⟨pt,ct,rfl,_⟩:=ot.form;obtain⟨t1,q1,y9,v11,za,w1,m7,s9,w2,_⟩:=gq.v8;have w2:rd h1 bf (off+1)=some (.int .i64 f.pc):=w2;have iz:∀ b∈Bt,b ∉ bm::B1/\b≠bs:=λb hb=>⟨(jV b hb).1,(jV b hb).2.1⟩
  have iW:=eY (fs:=fs) (M:=M) gp jW uD (by simp);have Gj:qD u ⟨13,a,b⟩ [v0] M.objs.length:=⟨λ_=>⟨v0,rfl⟩,λhx=>absurd hx (by simp),λhx=>absurd hx (by simp),λhx=>absurd hx (by simp),λhx=>absurd hx (by simp),λhx=>absurd hx (by simp),λhx=>absurd hx (by simp),Ft⟩
  have zd:=hi;simp[bz]at zd;have vq:M.objs.length<=900:=by have:=hI.len;omega
  have bX:=iL h0 h1 bs bm bf off u _ fs _ _ B1 ⟨13,a,b⟩ [v0] _ Bt gq ot iz ok (by simp) vq hI.objs Gj (by simp) (by simp;omega) (by simp);have gH:gG u ⟨13,a,b⟩ [v0] M.objs {f with stack:=rest} M.said=(match bD u ⟨13,a,b⟩ [v0] M.objs {f with stack:=rest}with | .ok (o,g)=>.ok (o,g,M.said,false) | .error e=>.error e):=rfl;rw[gH]at iW;have uk:∀ dL f2,bD u ⟨13,a,b⟩ [v0] M.objs {f with stack:=rest}=.ok (dL,f2)->kD u fs f M=.ok {M with objs:=dL,ag:=fs++[{f2 with pc:=f.pc+1}]}:=by
   intro dL f2 dW;rw[iW,dW];rfl
  have m8:∀ e,bD u ⟨13,a,b⟩ [v0] M.objs {f with stack:=rest}=.error e->kD u fs f M=.error e:=by
   intro e dW;rw[iW,dW]
  conv=>whnf
  repeat' ((first|refine ld w1 ?_|refine ld w2 ?_|refine aq ?_|refine ah ?_|refine ptr ?_)<;>conv=>whnf)
  refine dK bX ?_ ?_
  ·rintro vv h2 ⟨dL,f2,dW,B2,lN,iE⟩;have jv:=uk dL f2 dW;conv=>whnf
   first|refine lN.y7 ?_|skip
   conv=>whnf
   refine lN.kr (λh9 B9 mJ mK=>?_);conv=>whnf
   exact⟨_,jv,B9,mJ,gh.trans (iE.trans mK)⟩
  ·rintro c h2 ⟨k,k1,k2,k3⟩;exact⟨k,m8 k k1,k2,k3⟩
 ·have hi:=(aI (u:=u) (m:=aV u f.U) (a:=a) (b:=b) (k:=14) rfl).1 lQ;have qG:ws=[2]:=by simpa [di]using m3.symm
  rw[qG]at lZ eP;obtain⟨v0,rfl⟩:=gu lZ;have ig:v0.ref=true:=by cases hx:v0.ref with
   | true=>rfl
   | false=>simp[jD,hx]at eP
  obtain⟨pt,ct,rfl,_⟩:=ot.form;obtain⟨t1,q1,y9,v11,za,w1,m7,s9,w2,_⟩:=gq.v8;have w2:rd h1 bf (off+1)=some (.int .i64 f.pc):=w2;have iz:∀ b∈Bt,b ∉ bm::B1/\b≠bs:=λb hb=>⟨(jV b hb).1,(jV b hb).2.1⟩
  have iW:=eY (fs:=fs) (M:=M) gp jW uD (by simp);have Gj:qD u ⟨14,a,b⟩ [v0] M.objs.length:=⟨λhx=>absurd hx (by simp),λ_=>⟨v0,rfl,ig⟩,λhx=>absurd hx (by simp),λhx=>absurd hx (by simp),λhx=>absurd hx (by simp),λhx=>absurd hx (by simp),λhx=>absurd hx (by simp),Ft⟩
  have zd:=hi;simp[bz]at zd;have vq:M.objs.length<=900:=by have:=hI.len;omega
  have bX:=iL h0 h1 bs bm bf off u _ fs _ _ B1 ⟨14,a,b⟩ [v0] _ Bt gq ot iz ok (by simp) vq hI.objs Gj (by simp) (by simp) (by simp);have gH:gG u ⟨14,a,b⟩ [v0] M.objs {f with stack:=rest} M.said=(match bD u ⟨14,a,b⟩ [v0] M.objs {f with stack:=rest}with | .ok (o,g)=>.ok (o,g,M.said,false) | .error e=>.error e):=rfl;rw[gH]at iW;have uk:∀ dL f2,bD u ⟨14,a,b⟩ [v0] M.objs {f with stack:=rest}=.ok (dL,f2)->kD u fs f M=.ok {M with objs:=dL,ag:=fs++[{f2 with pc:=f.pc+1}]}:=by
   intro dL f2 dW;rw[iW,dW];rfl
  have m8:∀ e,bD u ⟨14,a,b⟩ [v0] M.objs {f with stack:=rest}=.error e->kD u fs f M=.error e:=by
   intro e dW;rw[iW,dW]
  conv=>whnf
  repeat' ((first|refine ld w1 ?_|refine ld w2 ?_|refine aq ?_|refine ah ?_|refine ptr ?_)<;>conv=>whnf)
  refine dK bX ?_ ?_
  ·rintro vv h2 ⟨dL,f2,dW,B2,lN,iE⟩;have jv:=uk dL f2 dW;conv=>whnf
   first|refine lN.y7 ?_|skip
   conv=>whnf
   refine lN.kr (λh9 B9 mJ mK=>?_);conv=>whnf
   exact⟨_,jv,B9,mJ,gh.trans (iE.trans mK)⟩
  ·rintro c h2 ⟨k,k1,k2,k3⟩;exact⟨k,m8 k k1,k2,k3⟩
 ·have hi:=(aI (u:=u) (m:=aV u f.U) (a:=a) (b:=b) (k:=15) rfl).1 lQ;have qG:ws=[2,1]:=by simpa [di]using m3.symm
  rw[qG]at lZ eP;obtain⟨v0,v1,rfl⟩:=uh lZ;have ig:v0.ref=true:=by cases hx:v0.ref with
   | true=>rfl
   | false=>simp[jD,hx]at eP
  obtain⟨pt,ct,rfl,_⟩:=ot.form;obtain⟨t1,q1,y9,v11,za,w1,m7,s9,w2,_⟩:=gq.v8;have w2:rd h1 bf (off+1)=some (.int .i64 f.pc):=w2;have iz:∀ b∈Bt,b ∉ bm::B1/\b≠bs:=λb hb=>⟨(jV b hb).1,(jV b hb).2.1⟩
  have iW:=eY (fs:=fs) (M:=M) gp jW uD (by simp);have Gj:qD u ⟨15,a,b⟩ [v0,v1] M.objs.length:=⟨λhx=>absurd hx (by simp),λhx=>absurd hx (by simp),λ_=>⟨v0,v1,rfl,ig⟩,λhx=>absurd hx (by simp),λhx=>absurd hx (by simp),λhx=>absurd hx (by simp),λhx=>absurd hx (by simp),Ft⟩
  have zd:=hi;simp[bz]at zd;have vq:M.objs.length<=900:=by have:=hI.len;omega
  have bX:=iL h0 h1 bs bm bf off u _ fs _ _ B1 ⟨15,a,b⟩ [v0,v1] _ Bt gq ot iz ok (by simp) vq hI.objs Gj (by simp) (by simp) (by simp);have gH:gG u ⟨15,a,b⟩ [v0,v1] M.objs {f with stack:=rest} M.said=(match bD u ⟨15,a,b⟩ [v0,v1] M.objs {f with stack:=rest}with | .ok (o,g)=>.ok (o,g,M.said,false) | .error e=>.error e):=rfl;rw[gH]at iW;have uk:∀ dL f2,bD u ⟨15,a,b⟩ [v0,v1] M.objs {f with stack:=rest}=.ok (dL,f2)->kD u fs f M=.ok {M with objs:=dL,ag:=fs++[{f2 with pc:=f.pc+1}]}:=by
   intro dL f2 dW;rw[iW,dW];rfl
  have m8:∀ e,bD u ⟨15,a,b⟩ [v0,v1] M.objs {f with stack:=rest}=.error e->kD u fs f M=.error e:=by
   intro e dW;rw[iW,dW]
  conv=>whnf
  repeat' ((first|refine ld w1 ?_|refine ld w2 ?_|refine aq ?_|refine ah ?_|refine ptr ?_)<;>conv=>whnf)
  refine dK bX ?_ ?_
  ·rintro vv h2 ⟨dL,f2,dW,B2,lN,iE⟩;have jv:=uk dL f2 dW;conv=>whnf
   first|refine lN.y7 ?_|skip
   conv=>whnf
   refine lN.kr (λh9 B9 mJ mK=>?_);conv=>whnf
   exact⟨_,jv,B9,mJ,gh.trans (iE.trans mK)⟩
  ·rintro c h2 ⟨k,k1,k2,k3⟩;exact⟨k,m8 k k1,k2,k3⟩
 ·have hi:=(aI (u:=u) (m:=aV u f.U) (a:=a) (b:=b) (k:=16) rfl).1 lQ;have qG:ws=[2,1,0]:=by simpa [di]using m3.symm
  rw[qG]at lZ eP;obtain⟨v0,v1,v2,rfl⟩:=Ef lZ;have ig:v0.ref=true:=by cases hx:v0.ref with
   | true=>rfl
   | false=>simp[jD,hx]at eP
  obtain⟨pt,ct,rfl,_⟩:=ot.form;obtain⟨t1,q1,y9,v11,za,w1,m7,s9,w2,_⟩:=gq.v8;have w2:rd h1 bf (off+1)=some (.int .i64 f.pc):=w2;have iz:∀ b∈Bt,b ∉ bm::B1/\b≠bs:=λb hb=>⟨(jV b hb).1,(jV b hb).2.1⟩
  have iW:=eY (fs:=fs) (M:=M) gp jW uD (by simp);have Gj:qD u ⟨16,a,b⟩ [v0,v1,v2] M.objs.length:=⟨λhx=>absurd hx (by simp),λhx=>absurd hx (by simp),λhx=>absurd hx (by simp),λ_=>⟨v0,v1,v2,rfl,ig⟩,λhx=>absurd hx (by simp),λhx=>absurd hx (by simp),λhx=>absurd hx (by simp),Ft⟩
  have zd:=hi;simp[bz]at zd;have vq:M.objs.length<=900:=by have:=hI.len;omega
  have bX:=iL h0 h1 bs bm bf off u _ fs _ _ B1 ⟨16,a,b⟩ [v0,v1,v2] _ Bt gq ot iz ok (by simp) vq hI.objs Gj (by simp) (by simp) (by simp);have gH:gG u ⟨16,a,b⟩ [v0,v1,v2] M.objs {f with stack:=rest} M.said=(match bD u ⟨16,a,b⟩ [v0,v1,v2] M.objs {f with stack:=rest}with | .ok (o,g)=>.ok (o,g,M.said,false) | .error e=>.error e):=rfl;rw[gH]at iW;have uk:∀ dL f2,bD u ⟨16,a,b⟩ [v0,v1,v2] M.objs {f with stack:=rest}=.ok (dL,f2)->kD u fs f M=.ok {M with objs:=dL,ag:=fs++[{f2 with pc:=f.pc+1}]}:=by
   intro dL f2 dW;rw[iW,dW];rfl
  have m8:∀ e,bD u ⟨16,a,b⟩ [v0,v1,v2] M.objs {f with stack:=rest}=.error e->kD u fs f M=.error e:=by
   intro e dW;rw[iW,dW]
  conv=>whnf
  repeat' ((first|refine ld w1 ?_|refine ld w2 ?_|refine aq ?_|refine ah ?_|refine ptr ?_)<;>conv=>whnf)
  refine dK bX ?_ ?_
  ·rintro vv h2 ⟨dL,f2,dW,B2,lN,iE⟩;have jv:=uk dL f2 dW;conv=>whnf
   first|refine lN.y7 ?_|skip
   conv=>whnf
   refine lN.kr (λh9 B9 mJ mK=>?_);conv=>whnf
   exact⟨_,jv,B9,mJ,gh.trans (iE.trans mK)⟩
  ·rintro c h2 ⟨k,k1,k2,k3⟩;exact⟨k,m8 k k1,k2,k3⟩
 ·have hi:=(aI (u:=u) (m:=aV u f.U) (a:=a) (b:=b) (k:=17) rfl).1 lQ;have qG:ws=[2]:=by simpa [di]using m3.symm
  rw[qG]at lZ eP;obtain⟨v0,rfl⟩:=gu lZ;have ig:v0.ref=true:=by cases hx:v0.ref with
   | true=>rfl
   | false=>simp[jD,hx]at eP
  obtain⟨pt,ct,rfl,_⟩:=ot.form;obtain⟨t1,q1,y9,v11,za,w1,m7,s9,w2,_⟩:=gq.v8;have w2:rd h1 bf (off+1)=some (.int .i64 f.pc):=w2;have iz:∀ b∈Bt,b ∉ bm::B1/\b≠bs:=λb hb=>⟨(jV b hb).1,(jV b hb).2.1⟩
  have iW:=eY (fs:=fs) (M:=M) gp jW uD (by simp);have Gj:qD u ⟨17,a,b⟩ [v0] M.objs.length:=⟨λhx=>absurd hx (by simp),λhx=>absurd hx (by simp),λhx=>absurd hx (by simp),λhx=>absurd hx (by simp),λ_=>⟨v0,rfl,ig⟩,λhx=>absurd hx (by simp),λhx=>absurd hx (by simp),Ft⟩
  have zd:=hi;simp[bz]at zd;have vq:M.objs.length<=900:=by have:=hI.len;omega
  have bX:=iL h0 h1 bs bm bf off u _ fs _ _ B1 ⟨17,a,b⟩ [v0] _ Bt gq ot iz ok (by simp) vq hI.objs Gj (by simp;omega) (by simp) (by simp;omega);have gH:gG u ⟨17,a,b⟩ [v0] M.objs {f with stack:=rest} M.said=(match bD u ⟨17,a,b⟩ [v0] M.objs {f with stack:=rest}with | .ok (o,g)=>.ok (o,g,M.said,false) | .error e=>.error e):=rfl;rw[gH]at iW;have uk:∀ dL f2,bD u ⟨17,a,b⟩ [v0] M.objs {f with stack:=rest}=.ok (dL,f2)->kD u fs f M=.ok {M with objs:=dL,ag:=fs++[{f2 with pc:=f.pc+1}]}:=by
   intro dL f2 dW;rw[iW,dW];rfl
  have m8:∀ e,bD u ⟨17,a,b⟩ [v0] M.objs {f with stack:=rest}=.error e->kD u fs f M=.error e:=by
   intro e dW;rw[iW,dW]
  conv=>whnf
  repeat' ((first|refine ld w1 ?_|refine ld w2 ?_|refine aq ?_|refine ah ?_|refine ptr ?_)<;>conv=>whnf)
  refine dK bX ?_ ?_
  ·rintro vv h2 ⟨dL,f2,dW,B2,lN,iE⟩;have jv:=uk dL f2 dW;conv=>whnf
   first|refine lN.y7 ?_|skip
   conv=>whnf
   refine lN.kr (λh9 B9 mJ mK=>?_);conv=>whnf
   exact⟨_,jv,B9,mJ,gh.trans (iE.trans mK)⟩
  ·rintro c h2 ⟨k,k1,k2,k3⟩;exact⟨k,m8 k k1,k2,k3⟩
 ·have hi:=(aI (u:=u) (m:=aV u f.U) (a:=a) (b:=b) (k:=18) rfl).1 lQ;have qG:ws=[2,0]:=by simpa [di]using m3.symm
  rw[qG]at lZ eP;obtain⟨v0,v1,rfl⟩:=uh lZ;have ig:v0.ref=true:=by cases hx:v0.ref with
   | true=>rfl
   | false=>simp[jD,hx]at eP
  obtain⟨pt,ct,rfl,_⟩:=ot.form;obtain⟨t1,q1,y9,v11,za,w1,m7,s9,w2,_⟩:=gq.v8;have w2:rd h1 bf (off+1)=some (.int .i64 f.pc):=w2;have iz:∀ b∈Bt,b ∉ bm::B1/\b≠bs:=λb hb=>⟨(jV b hb).1,(jV b hb).2.1⟩
  have iW:=eY (fs:=fs) (M:=M) gp jW uD (by simp);have Gj:qD u ⟨18,a,b⟩ [v0,v1] M.objs.length:=⟨λhx=>absurd hx (by simp),λhx=>absurd hx (by simp),λhx=>absurd hx (by simp),λhx=>absurd hx (by simp),λhx=>absurd hx (by simp),λ_=>⟨v0,v1,rfl,ig⟩,λhx=>absurd hx (by simp),Ft⟩
  have zd:=hi;simp[bz]at zd;have vq:M.objs.length<=900:=by have:=hI.len;omega
  have bX:=iL h0 h1 bs bm bf off u _ fs _ _ B1 ⟨18,a,b⟩ [v0,v1] _ Bt gq ot iz ok (by simp) vq hI.objs Gj (by simp;omega) (by simp) (by simp;omega);have gH:gG u ⟨18,a,b⟩ [v0,v1] M.objs {f with stack:=rest} M.said=(match bD u ⟨18,a,b⟩ [v0,v1] M.objs {f with stack:=rest}with | .ok (o,g)=>.ok (o,g,M.said,false) | .error e=>.error e):=rfl;rw[gH]at iW;have uk:∀ dL f2,bD u ⟨18,a,b⟩ [v0,v1] M.objs {f with stack:=rest}=.ok (dL,f2)->kD u fs f M=.ok {M with objs:=dL,ag:=fs++[{f2 with pc:=f.pc+1}]}:=by
   intro dL f2 dW;rw[iW,dW];rfl
  have m8:∀ e,bD u ⟨18,a,b⟩ [v0,v1] M.objs {f with stack:=rest}=.error e->kD u fs f M=.error e:=by
   intro e dW;rw[iW,dW]
  conv=>whnf
  repeat' ((first|refine ld w1 ?_|refine ld w2 ?_|refine aq ?_|refine ah ?_|refine ptr ?_)<;>conv=>whnf)
  refine dK bX ?_ ?_
  ·rintro vv h2 ⟨dL,f2,dW,B2,lN,iE⟩;have jv:=uk dL f2 dW;conv=>whnf
   first|refine lN.y7 ?_|skip
   conv=>whnf
   refine lN.kr (λh9 B9 mJ mK=>?_);conv=>whnf
   exact⟨_,jv,B9,mJ,gh.trans (iE.trans mK)⟩
  ·rintro c h2 ⟨k,k1,k2,k3⟩;exact⟨k,m8 k k1,k2,k3⟩
 ·have hi:=(aI (u:=u) (m:=aV u f.U) (a:=a) (b:=b) (k:=19) rfl).1 lQ;have qG:ws=[2]:=by simpa [di]using m3.symm
  rw[qG]at lZ eP;obtain⟨v0,rfl⟩:=gu lZ;have ig:v0.ref=true:=by cases hx:v0.ref with
   | true=>rfl
   | false=>simp[jD,hx]at eP
  obtain⟨pt,ct,rfl,_⟩:=ot.form;obtain⟨t1,q1,y9,v11,za,w1,m7,s9,w2,_⟩:=gq.v8;have w2:rd h1 bf (off+1)=some (.int .i64 f.pc):=w2;have iz:∀ b∈Bt,b ∉ bm::B1/\b≠bs:=λb hb=>⟨(jV b hb).1,(jV b hb).2.1⟩
  have iW:=eY (fs:=fs) (M:=M) gp jW uD (by simp);have Gj:qD u ⟨19,a,b⟩ [v0] M.objs.length:=⟨λhx=>absurd hx (by simp),λhx=>absurd hx (by simp),λhx=>absurd hx (by simp),λhx=>absurd hx (by simp),λhx=>absurd hx (by simp),λhx=>absurd hx (by simp),λ_=>⟨v0,rfl,ig⟩,Ft⟩
  have zd:=hi;simp[bz]at zd;have vq:M.objs.length<=900:=by have:=hI.len;omega
  have bX:=iL h0 h1 bs bm bf off u _ fs _ _ B1 ⟨19,a,b⟩ [v0] _ Bt gq ot iz ok (by simp) vq hI.objs Gj (by simp;omega) (by simp) (by simp);have gH:gG u ⟨19,a,b⟩ [v0] M.objs {f with stack:=rest} M.said=(match bD u ⟨19,a,b⟩ [v0] M.objs {f with stack:=rest}with | .ok (o,g)=>.ok (o,g,M.said,false) | .error e=>.error e):=rfl;rw[gH]at iW;have uk:∀ dL f2,bD u ⟨19,a,b⟩ [v0] M.objs {f with stack:=rest}=.ok (dL,f2)->kD u fs f M=.ok {M with objs:=dL,ag:=fs++[{f2 with pc:=f.pc+1}]}:=by
   intro dL f2 dW;rw[iW,dW];rfl
  have m8:∀ e,bD u ⟨19,a,b⟩ [v0] M.objs {f with stack:=rest}=.error e->kD u fs f M=.error e:=by
   intro e dW;rw[iW,dW]
  conv=>whnf
  repeat' ((first|refine ld w1 ?_|refine ld w2 ?_|refine aq ?_|refine ah ?_|refine ptr ?_)<;>conv=>whnf)
  refine dK bX ?_ ?_
  ·rintro vv h2 ⟨dL,f2,dW,B2,lN,iE⟩;have jv:=uk dL f2 dW;conv=>whnf
   first|refine lN.y7 ?_|skip
   conv=>whnf
   refine lN.kr (λh9 B9 mJ mK=>?_);conv=>whnf
   exact⟨_,jv,B9,mJ,gh.trans (iE.trans mK)⟩
  ·rintro c h2 ⟨k,k1,k2,k3⟩;exact⟨k,m8 k k1,k2,k3⟩
 ·have hi:=(aI (u:=u) (m:=aV u f.U) (a:=a) (b:=b) (k:=20) rfl).1 lQ;have qG:ws=List.replicate (aV u a).args.length 0:=by simpa [di]using m3.symm
  obtain⟨pt,ct,rfl,_⟩:=ot.form;obtain⟨t1,q1,y9,v11,za,w1,m7,s9,w2,_⟩:=gq.v8;have w2:rd h1 bf (off+1)=some (.int .i64 f.pc):=w2;have iz:∀ b∈Bt,b ∉ bm::B1/\b≠bs:=λb hb=>⟨(jV b hb).1,(jV b hb).2.1⟩
  have m9:=sL (fs:=fs) (M:=M) gp jW uD (by simp);have zd:=hi.1;simp[bz]at zd;have Sp:=(hu.2.2.2.1 _ (iV zd.1)).1;have mX:(aR.length:Int)<=(aV u a).locals/\(aV u a).locals<=3:=by
   have e1:=Sp.2.2.2.2.1;have e2:=Sp.2.2.2.2.2;have e3:(aV u a).args.length<=(cG (aV u a)).length:=by simp[cG]
   rw[qG]at lZ;simp at lZ;omega
  have ze:=hS.ag;have Gk:(fs++[{f with stack:=rest}]).length<=900:=by have:=hI.nf;rw[ze]at this;simp at this ⊢;omega
  have ug:∀(g:bQ),g∈fs++[{f with stack:=rest}]->(0<=g.U/\g.U < u.methods.length)/\0<=g.pc/\g.pc<=1000:=by
   intro g hg;rcases u_.1 hg with hg|hg
   ·have hG:=hI.iN g (by rw[ze];simp[hg]);have h12:=(hu.2.2.2.1 _ (iV hG.U)).2.1.2.1;have:=hG.pc;exact⟨hG.U,this.1,by omega⟩
   ·rw[V_.1 hg];exact⟨hF.U,Gh,by show f.pc<=1000;omega⟩
  have vq:M.objs.length<=900:=by have:=hI.len;omega
  have bX:=sK h0 h1 bs bm bf off u _ fs _ _ B1 ⟨20,a,b⟩ aR _ Bt gq ot iz ok (by simp) vq Gk hI.objs Ft (λ_=>⟨zd.1,mX⟩) (by simp) (by simp) (by simp) (by simp) ug;conv=>whnf
  repeat' ((first|refine ld w1 ?_|refine ld w2 ?_|refine aq ?_|refine ah ?_|refine ptr ?_)<;>conv=>whnf)
  refine dK bX ?_ ?_
  ·rintro vv h2 hh;have fL:=qk.trans gh hh;rw[<-m9]at fL;conv=>whnf
   exact fL
  ·rintro c h2 hh;have fL:=qk.trans gh hh;rw[<-m9]at fL;exact fL
 ·have hi:=(aI (u:=u) (m:=aV u f.U) (a:=a) (b:=b) (k:=21) rfl).1 lQ;have hsend:=hsend rfl;obtain⟨pt,ct,rfl,_⟩:=ot.form;obtain⟨t1,q1,y9,v11,za,w1,m7,s9,w2,_⟩:=gq.v8;have w2:rd h1 bf (off+1)=some (.int .i64 f.pc):=w2;have iz:∀ b∈Bt,b ∉ bm::B1/\b≠bs:=λb hb=>⟨(jV b hb).1,(jV b hb).2.1⟩
  have m9:=sL (fs:=fs) (M:=M) gp jW uD (by simp);have acu:∃ v0 rr,aR=v0::rr/\v0.ref=true:=by
   simp[di]at m3;obtain⟨_,rfl⟩:=m3;match aR,lZ,eP with
   | v0::rr,_,eP =>
    refine⟨v0,rr,rfl,?_⟩;cases hx:v0.ref with
    | true=>rfl
    | false=>simp[jD,hx]at eP
  have ze:=hS.ag;have Gk:(fs++[{f with stack:=rest}]).length<=900:=by have:=hI.nf;rw[ze]at this;simp at this ⊢;omega
  have ug:∀(g:bQ),g∈fs++[{f with stack:=rest}]->(0<=g.U/\g.U < u.methods.length)/\0<=g.pc/\g.pc<=1000:=by
   intro g hg;rcases u_.1 hg with hg|hg
   ·have hG:=hI.iN g (by rw[ze];simp[hg]);have h12:=(hu.2.2.2.1 _ (iV hG.U)).2.1.2.1;have:=hG.pc;exact⟨hG.U,this.1,by omega⟩
   ·rw[V_.1 hg];exact⟨hF.U,Gh,by show f.pc<=1000;omega⟩
  have vq:M.objs.length<=900:=by have:=hI.len;omega
  have bX:=sK h0 h1 bs bm bf off u _ fs _ _ B1 ⟨21,a,b⟩ aR _ Bt gq ot iz ok (by simp) vq Gk hI.objs Ft (by simp) (λ_=>acu) (λ_ c hc hu=>hsend aR rest c uD hc hu) (by simp) (by simp) ug;conv=>whnf
  repeat' ((first|refine ld w1 ?_|refine ld w2 ?_|refine aq ?_|refine ah ?_|refine ptr ?_)<;>conv=>whnf)
  refine dK bX ?_ ?_
  ·rintro vv h2 hh;have fL:=qk.trans gh hh;rw[<-m9]at fL;conv=>whnf
   exact fL
  ·rintro c h2 hh;have fL:=qk.trans gh hh;rw[<-m9]at fL;exact fL
 ·have hi:=(aI (u:=u) (m:=aV u f.U) (a:=a) (b:=b) (k:=22) rfl).1 lQ;have qG:ws=[0]:=by simpa [di]using m3.symm
  rw[qG]at lZ eP;obtain⟨v0,rfl⟩:=gu lZ;obtain⟨pt,ct,rfl,_⟩:=ot.form;obtain⟨t1,q1,y9,v11,za,w1,m7,s9,w2,_⟩:=gq.v8;have w2:rd h1 bf (off+1)=some (.int .i64 f.pc):=w2;have iz:∀ b∈Bt,b ∉ bm::B1/\b≠bs:=λb hb=>⟨(jV b hb).1,(jV b hb).2.1⟩
  have m9:=sL (fs:=fs) (M:=M) gp jW uD (by simp);have ze:=hS.ag;have Gk:(fs++[{f with stack:=rest}]).length<=900:=by have:=hI.nf;rw[ze]at this;simp at this ⊢;omega
  have ug:∀(g:bQ),g∈fs++[{f with stack:=rest}]->(0<=g.U/\g.U < u.methods.length)/\0<=g.pc/\g.pc<=1000:=by
   intro g hg;rcases u_.1 hg with hg|hg
   ·have hG:=hI.iN g (by rw[ze];simp[hg]);have h12:=(hu.2.2.2.1 _ (iV hG.U)).2.1.2.1;have:=hG.pc;exact⟨hG.U,this.1,by omega⟩
   ·rw[V_.1 hg];exact⟨hF.U,Gh,by show f.pc<=1000;omega⟩
  have vq:M.objs.length<=900:=by have:=hI.len;omega
  have bX:=sK h0 h1 bs bm bf off u _ fs _ _ B1 ⟨22,a,b⟩ [v0] _ Bt gq ot iz ok (by simp) vq Gk hI.objs Ft (by simp) (by simp) (by simp) (λ_=>⟨v0,rfl⟩) (by simp) ug;conv=>whnf
  repeat' ((first|refine ld w1 ?_|refine ld w2 ?_|refine aq ?_|refine ah ?_|refine ptr ?_)<;>conv=>whnf)
  refine dK bX ?_ ?_
  ·rintro vv h2 hh;have fL:=qk.trans gh hh;rw[<-m9]at fL;conv=>whnf
   exact fL
  ·rintro c h2 hh;have fL:=qk.trans gh hh;rw[<-m9]at fL;exact fL
 ·have hi:=(aI (u:=u) (m:=aV u f.U) (a:=a) (b:=b) (k:=23) rfl).1 lQ;have qG:ws=[2]:=by simpa [di]using m3.symm
  rw[qG]at lZ eP;obtain⟨v0,rfl⟩:=gu lZ;have ig:v0.ref=true:=by cases hx:v0.ref with
   | true=>rfl
   | false=>simp[jD,hx]at eP
  obtain⟨pt,ct,rfl,_⟩:=ot.form;obtain⟨t1,q1,y9,v11,za,w1,m7,s9,w2,_⟩:=gq.v8;have w2:rd h1 bf (off+1)=some (.int .i64 f.pc):=w2;have iz:∀ b∈Bt,b ∉ bm::B1/\b≠bs:=λb hb=>⟨(jV b hb).1,(jV b hb).2.1⟩
  have m9:=sL (fs:=fs) (M:=M) gp jW uD (by simp);have ze:=hS.ag;have Gk:(fs++[{f with stack:=rest}]).length<=900:=by have:=hI.nf;rw[ze]at this;simp at this ⊢;omega
  have ug:∀(g:bQ),g∈fs++[{f with stack:=rest}]->(0<=g.U/\g.U < u.methods.length)/\0<=g.pc/\g.pc<=1000:=by
   intro g hg;rcases u_.1 hg with hg|hg
   ·have hG:=hI.iN g (by rw[ze];simp[hg]);have h12:=(hu.2.2.2.1 _ (iV hG.U)).2.1.2.1;have:=hG.pc;exact⟨hG.U,this.1,by omega⟩
   ·rw[V_.1 hg];exact⟨hF.U,Gh,by show f.pc<=1000;omega⟩
  have vq:M.objs.length<=900:=by have:=hI.len;omega
  have bX:=sK h0 h1 bs bm bf off u _ fs _ _ B1 ⟨23,a,b⟩ [v0] _ Bt gq ot iz ok (by simp) vq Gk hI.objs Ft (by simp) (by simp) (by simp) (by simp) (λ_=>⟨v0,rfl,ig⟩) ug;conv=>whnf
  repeat' ((first|refine ld w1 ?_|refine ld w2 ?_|refine aq ?_|refine ah ?_|refine ptr ?_)<;>conv=>whnf)
  refine dK bX ?_ ?_
  ·rintro vv h2 hh;have fL:=qk.trans gh hh;rw[<-m9]at fL;conv=>whnf
   exact fL
  ·rintro c h2 hh;have fL:=qk.trans gh hh;rw[<-m9]at fL;exact fL
 ·have hi:=(aI (u:=u) (m:=aV u f.U) (a:=a) (b:=b) (k:=24) rfl).1 lQ;have qG:ws=[1]:=by simpa [di]using m3.symm
  rw[qG]at lZ eP;obtain⟨v0,rfl⟩:=gu lZ;obtain⟨pt,ct,rfl,_⟩:=ot.form;obtain⟨t1,q1,y9,v11,za,w1,m7,s9,w2,_⟩:=gq.v8;have w2:rd h1 bf (off+1)=some (.int .i64 f.pc):=w2;have iz:∀ b∈Bt,b ∉ bm::B1/\b≠bs:=λb hb=>⟨(jV b hb).1,(jV b hb).2.1⟩
  have iW:=eY (fs:=fs) (M:=M) gp jW uD (by simp);have vp:(List.map bR [v0]).length=1:=rfl;have uj:0 < List.length [v0]:=by simp
  have e9:=ot.all uj;obtain⟨b0,Gi,_,eI⟩:=e9;have n0:=(eI 0 (by simp)).1;have m0:=(eI 0 (by simp)).2;simp only[List.getElem_cons_zero,List.getElem_cons_succ]at n0 m0;have hmp:=gq.mp.2.1;obtain⟨tb,ps,cs,vo,vf,iR,grow⟩:=gq.ma.QI (by have:=hI.said;show M.said.length<=1000;omega);have Y7:rd h1 bm 2=some (.slice ps M.said.length cs):=bE iR (i:=2) rfl rfl;have y5:h1 bs≠none:=by
   intro hx;unfold rd at w1;rw[hx]at w1;cases w1
  have fK:=gq.out;conv=>whnf
  repeat' ((first|refine ld w1 ?_|refine ld w2 ?_|refine aq ?_|refine ah ?_|refine ptr ?_)<;>conv=>whnf)
  repeat' ((first|exact trivial|refine ld hmp ?_|refine ld Y7 ?_|apply T_|refine aG Gi ?_|refine ld m0 ?_|refine aq ?_)<;>conv=>whnf)
  all_goals
   refine grow v0.n [] _ _ ⟨rfl,rfl⟩ (λ_=>by simp) (by simp) rfl rfl rfl rfl (by simp) ?_;rintro p' c' h2 e1 e2 e3 ⟨B2,ND,sY⟩;have acv:rd h2 bs 11=some (.pointer (some ⟨bm,0,none⟩)):=by
    unfold rd at hmp ⊢;rw[e2 bs (λhx=>fK (by simp[hx])) (by simp) y5];exact hmp
   have s7:=e1.trans iR;conv=>whnf
   (try refine ld acv ?_)
   conv=>whnf
   refine lP s7 (i:=2) (ay vo vf (.slice p' (M.said.length+1) c') {M with ag:=fs++[{f with stack:=rest}]}) rfl (by simp[ay]) rfl (λh3 kB Le=>?_);have acw:bs≠bm:=λhx=>fK (by simp[hx]);have acx:gV h0 h3 bm [] [] {M with ag:=fs++[{f with stack:=rest}],said:=M.said++[v0.n]} B2:=by rw[kB];exact ND
   have NB:=gq.move (h':=h3) acx rfl (by rw[kB];simp only[Heap.set,acw,if_false];exact e2 bs (λhx=>fK (by simp[hx])) (by simp) y5)
    (by
     have z1:rd h3 bm 1=some vf:=bE Le (i:=1) rfl rfl;have z2:rd h1 bm 1=some vf:=bE iR (i:=1) rfl rfl;rw[z1,z2])
    (λhx=>by
     rcases sY.new bs hx with hy|hy
     ·exact fK (by simpa using hy)
     ·exact y5 hy)
   have Ah:Ev h1 h3 (bm::B1) (bm::B2):=by rw[kB];simpa using sY
   conv=>whnf
   first|refine NB.y7 ?_|skip
   conv=>whnf
   refine NB.kr (λh9 B9 mJ mK=>?_);conv=>whnf
   exact⟨_,(by rw[iW];rfl),B9,mJ,gh.trans (Ah.trans mK)⟩
def CC (u:aO) (f:bQ):Prop:=∀(x:ez) (aR rest:List Vl) (c:Int),x∈(aV u f.U).code->x.kind=21->ee u x f.stack=some (aR,rest)->c < u.J.length->up u.J c x.a=true->0<=find u c x.b/\((aR.length:Int)<=(aV u (find u c x.b)).locals/\(aV u (find u c x.b)).locals<=3)
theorem acy (h0 h:Heap) (bs bm bf off:Nat) (u:aO) (fs:List bQ) (f:bQ) (M:bM) (B:List Nat) (hS:lB h0 h bs bm bf off u (aV u f.U) fs f M B) (hu:cz u) (hI:IX u M) (hsend:CC u f) :
  cZ prog 119 [.pointer (some ⟨bs,0,none⟩)] h (qk h0 h bm B (kD u fs f M)):=by
 by_cases gp:((aV u f.U).code.length:Int)<=f.pc
 ·obtain⟨r1,r2,_,p,cc,q,d,D6,r9,iM,R9,p2,c2,r6,oT⟩:=hS.mp;obtain⟨t0,q0,rr0,v10,v20,_,Y4,qL,s1,_⟩:=hS.v8;refine outs au func119 Ou KA rfl ?_;conv=>whnf
  repeat' ((first|refine ld r1 ?_|refine ld s1 ?_|refine ld r6 ?_|refine aq ?_|refine ah ?_|refine ptr ?_)<;>conv=>whnf)
  refine gI gp ?_;conv=>whnf
  exact⟨0,by unfold kD;rw[if_pos gp],rfl,hS.ma.pn⟩
 have Fq:f∈M.ag:=by rw[hS.ag];simp
 have hF:=hI.iN f Fq;have QN:=hu.2.2.2.1 _ (iV hF.U);obtain⟨Gh,Y3⟩:=hF.pc;have bV:f.pc.toNat < (aV u f.U).code.length:=by omega
 have Kh:(aV u f.U).code[f.pc.toNat]∈(aV u f.U).code:=x_ _;have lQ:=QN.2.1.2.2.2.1 _ Kh;have jW:(aV u f.U).code.getD f.pc.toNat ep=(aV u f.U).code[f.pc.toNat]:=by simp[bV]
 generalize (aV u f.U).code[f.pc.toNat]=x at Kh lQ jW;obtain⟨kind,a,b⟩:=x;cases hw:tH kind with
 | none=>exact absurd lQ (by rintro⟨_,_,hx,_⟩;rw[hw]at hx;cases hx)
 | some w =>
 obtain⟨wa,wb⟩:=w;have ef:=wE hw;simp only[ku,eX,List.mem_cons,List.not_mem_nil,or_false,Prod.mk.injEq]at ef;rcases ef with ⟨rfl,_⟩|⟨rfl,_⟩|⟨rfl,_⟩|⟨rfl,_⟩|⟨rfl,_⟩|⟨rfl,_⟩|⟨rfl,_⟩|⟨rfl,_⟩|⟨rfl,_⟩|⟨rfl,_⟩|⟨rfl,_⟩|⟨rfl,_⟩|⟨rfl,_⟩|⟨rfl,_⟩|⟨rfl,_⟩|⟨rfl,_⟩|⟨rfl,_⟩|⟨rfl,_⟩|⟨rfl,_⟩|⟨rfl,_⟩|⟨rfl,_⟩|⟨rfl,_⟩|⟨rfl,_⟩|⟨rfl,_⟩
 ·exact qF h0 h bs bm bf off u fs f M B a b 1 (by simp) hS hu hI gp jW
 ·exact qF h0 h bs bm bf off u fs f M B a b 2 (by simp) hS hu hI gp jW
 ·exact qF h0 h bs bm bf off u fs f M B a b 3 (by simp) hS hu hI gp jW
 ·exact qF h0 h bs bm bf off u fs f M B a b 4 (by simp) hS hu hI gp jW
 ·exact qF h0 h bs bm bf off u fs f M B a b 5 (by simp) hS hu hI gp jW
 ·exact qF h0 h bs bm bf off u fs f M B a b 6 (by simp) hS hu hI gp jW
 ·exact qF h0 h bs bm bf off u fs f M B a b 7 (by simp) hS hu hI gp jW
 ·exact qF h0 h bs bm bf off u fs f M B a b 8 (by simp) hS hu hI gp jW
 ·exact qF h0 h bs bm bf off u fs f M B a b 9 (by simp) hS hu hI gp jW
 ·exact qF h0 h bs bm bf off u fs f M B a b 10 (by simp) hS hu hI gp jW
 ·exact qF h0 h bs bm bf off u fs f M B a b 11 (by simp) hS hu hI gp jW
 ·exact qF h0 h bs bm bf off u fs f M B a b 12 (by simp) hS hu hI gp jW
 ·exact qH h0 h bs bm bf off u fs f M B a b 13 (by simp) hS hu hI gp jW (λh=>absurd h (by decide))
 ·exact qH h0 h bs bm bf off u fs f M B a b 14 (by simp) hS hu hI gp jW (λh=>absurd h (by decide))
 ·exact qH h0 h bs bm bf off u fs f M B a b 15 (by simp) hS hu hI gp jW (λh=>absurd h (by decide))
 ·exact qH h0 h bs bm bf off u fs f M B a b 16 (by simp) hS hu hI gp jW (λh=>absurd h (by decide))
 ·exact qH h0 h bs bm bf off u fs f M B a b 17 (by simp) hS hu hI gp jW (λh=>absurd h (by decide))
 ·exact qH h0 h bs bm bf off u fs f M B a b 18 (by simp) hS hu hI gp jW (λh=>absurd h (by decide))
 ·exact qH h0 h bs bm bf off u fs f M B a b 19 (by simp) hS hu hI gp jW (λh=>absurd h (by decide))
 ·exact qH h0 h bs bm bf off u fs f M B a b 20 (by simp) hS hu hI gp jW (λh=>absurd h (by decide))
 ·exact qH h0 h bs bm bf off u fs f M B a b 21 (by simp) hS hu hI gp jW (λ_=>λaR rest c h1 h2 h3=>hsend ⟨21,a,b⟩ aR rest c Kh rfl h1 h2 h3)
 ·exact qH h0 h bs bm bf off u fs f M B a b 22 (by simp) hS hu hI gp jW (λh=>absurd h (by decide))
 ·exact qH h0 h bs bm bf off u fs f M B a b 23 (by simp) hS hu hI gp jW (λh=>absurd h (by decide))
 ·exact qH h0 h bs bm bf off u fs f M B a b 24 (by simp) hS hu hI gp jW (λh=>absurd h (by decide))
def qm (i:Int):Ob:=⟨1,[⟨false,i⟩]⟩
def iX (n:Nat):List Ob:=(List.range n).map λ(i:Nat)=>qm ((i:Int)+1)
def qM (u:aO):bM:=⟨iX 7,[⟨0,0,List.replicate (aV u 0).locals.toNat cU,[]⟩],[],0,0,cU⟩
theorem CD (n:Nat):iX (n+1)=iX n++[qm ((n:Int)+1)]:=by simp[iX,List.range_succ]
theorem nS (n:Nat):(iX n).length=n:=by simp[iX]
theorem OL:∀ w:World,(Go.binOp .eql 20 .nilIface .nilIface).run prog w=.ok (.bool true) w:=λ_=>by kernel_rfl
theorem Li (v:Value):∀ w:World,(Go.binOp .eql 20 (.iface 95 v) .nilIface).run prog w=.ok (.bool false) w:=λ_=>by kernel_rfl
theorem Lj (v:Value):∀ w:World,(Instr.typeAssert (.iface 95 v) 20 95 true).run prog w=.ok (.tuple #[v,.bool true]) w:=λ_=>by kernel_rfl
theorem IY {res:List ResultVar} {R:Value->Heap->Prop} {e:Env} {p4 p5:Nat} {h:Heap} (hx:ic sig e h res λvs=>lM (λv=>R v h) vs) :
  FU prog sig res R 117 [.pointer (some ⟨p4,0,none⟩),.pointer (some ⟨p5,0,none⟩)] .returning e h:=by
 refine Hy au RT (k:=2) (v:=.nilIface) (.inl ⟨rfl,rfl⟩) func117 rfl rfl Qj rfl ?_;conv=>whnf
 refine iI rfl rfl (λw=>by simp[eqGuard]) OL ?_;conv=>whnf
 exact hx
theorem Eg {res:List ResultVar} {R:Value->Heap->Prop} {e:Env} {p4 p5:Nat} {k0 k:Int} {b0:Bool} {t4 t5:TypeId} {h:Heap} (h4:h p4=some (.cells #[.int .i64 k0] t4 (0,0))) (h5:h p5=some (.cells #[.bool b0] t5 (0,0))) (cH:p4≠p5)
  (hx:∀ h':Heap,h' p4=some (.cells #[.int .i64 k] t4 (0,0))->h' p5=some (.cells #[.bool false] t5 (0,0))->(∀ b,b≠p4->b≠p5->h b≠none->h' b=h b)->ic sig e h' res λvs=>lM (λv=>R v h') vs) :
  FU prog sig res R 117 [.pointer (some ⟨p4,0,none⟩),.pointer (some ⟨p5,0,none⟩)] (.panicking (j5 k)) e h:=by
 refine Hy au RT (k:=2) (.inr rfl) func117 rfl rfl Qj rfl ?_;conv=>whnf
 refine iI rfl rfl (λw=>by simp[eqGuard]) (Li _) ?_;conv=>whnf
 refine fH rfl (Lj _) ?_;conv=>whnf
 refine Ag h4 [.int .i64 k] (by simp) rfl (λh1 e1 g1=>?_);conv=>whnf
 refine Ag (cs:=[.bool b0]) (t:=t5) (by rw[e1];simp only[Heap.set,cH.symm,if_false];exact h5) [.bool false] (by simp) rfl (λh2 e2 g2=>?_);conv=>whnf
 refine hx h2 ?_ g2 (λb CE mz _=>?_)
 ·rw[e2];simp only[Heap.set,cH,if_false];exact g1
 ·rw[e2,e1];simp only[Heap.set,CE,mz,if_false]
theorem gV.Y8 {h0 h h2:Heap} {bm p4 p5:Nat} {M:bM} {B:List Nat} (hM:gV h0 h bm [] [] M B) (hl:h.le h2) (h4:h p4=none) (h5:h p5=none):∃ Sq:Heap,h0.le Sq/\Sq p4=h2 p4/\Sq p5=h2 p5/\gV Sq h2 bm [] [] M B:=by
 obtain⟨le,⟨mc,t,hb,own⟩,nd,fr⟩:=hM;have n0:∀ b,h b=none->h0 b=none:=λb hb=>by
  cases hh:h0 b with
  | none=>rfl
  | some o=>rw[le b o hh]at hb;cases hb
 have fW:=own.in;refine⟨λb=>if b=p4\/b=p5 then h2 b else h0 b,λb o hb=>?_,by simp,by simp,?_,⟨mc,t,hl _ _ hb,own.aJ (cR.of_le hl _)⟩,nd,λb fO=>?_⟩
 ·have:¬(b=p4\/b=p5):=by
   rintro(rfl|rfl)
   ·rw[n0 _ h4]at hb;cases hb
   ·rw[n0 _ h5]at hb;cases hb
  simp only[this,if_false];exact hb
 ·intro b o hb;by_cases hx:b=p4\/b=p5
  ·simp only[hx,if_true]at hb;exact hb
  ·simp only[hx,if_false]at hb;exact hl _ _ (le _ _ hb)
 ·have:¬(b=p4\/b=p5):=by
   have hs:∃ o,h b=some o:=by
    rcases List.mem_cons.1 fO with rfl|fO
    ·exact⟨_,hb⟩
    ·exact fW b fO
   obtain⟨o,ho⟩:=hs;rintro(rfl|rfl)
   ·rw[h4]at ho;cases ho
   ·rw[h5]at ho;cases ho
  simp only[this,if_false];exact fr b fO
def acz (h0 h:Heap) (bm:Nat) (B:List Nat):Except Int bM->Value->Heap->Prop
 | .ok M',v,h'=>v=.tuple #[.agg #[.int .i64 0],.bool true]/\∃ B',gV h0 h' bm [] [] M' B'/\Ev h h' (bm::B) (bm::B')
 | .error k,v,h'=>v=.tuple #[.agg #[.int .i64 k],.bool false]/\Pn h0 bm h'
theorem IZ (h0 h:Heap) (bm:Nat) (us:List Value) (u:aO) (fs:List bQ) (f:bQ) (M:bM) (B:List Nat) (r:Except Int bM) (hr:kD u fs f M=r) (hM:gV h0 h bm [] [] M B) (hu:dG h0 us u) (hf:M.ag=fs++[f])
  (hT:cz u) (hI:IX u M) (hsend:CC u f) :
  bI prog 60 [.agg ⟨us⟩,.pointer (some ⟨bm,0,none⟩)] h (acz h0 h bm B r):=by
 have Fq:f∈M.ag:=by rw[hf];simp
 have hF:=hI.iN f Fq;have iw:=hu;obtain⟨p,cc,q,d,rfl,hcs,fM,ji,hl2⟩:=hu.form;refine DT au F60 (k:=2) 3 func60 abC rfl rfl rfl rfl rfl rfl rfl rfl ?_;conv=>whnf
 refine ec [.int .i64 0] rfl (λp4 h1 CE e4 l4 g4=>?_);conv=>whnf
 refine ec [.bool false] rfl (λp5 h2 mz e5 l5 g5=>?_);conv=>whnf
 have cH:p4≠p5:=by rintro rfl;rw[g4]at mz;cases mz
 have OM:h p5=none:=by
  cases hh:h p5 with
  | none=>rfl
  | some o=>rw[l4 _ _ hh]at mz;cases mz
 have g42:=l5 _ _ g4;have Y9:=hM.Y8 (y_ l4 l5) CE OM;refine Y9.elim (λSq bA=>?_);have k4:=bA.2.1.trans g42;have k5:=bA.2.2.1.trans g5;have hMt:=bA.2.2.2;have Ai:=bA.1;refine aC (vm Sq h2 bm _ u fs f M B hMt (iw.le Ai) hf hF.U (by have:=hI.nf;omega)) (λv h3 hn=>?_);refine hn.2.elim λbs NH=>NH.elim λbf hn3=>hn3.elim λoff hn4=>?_;have hS:=hn4.2.2;have hv:=hn4.1;subst hv;conv=>whnf
 have iW:=acy Sq h3 bs bm bf off u fs f M B hS hT hI hsend;rw[hr]at iW;refine dK iW (λv h4 hh=>?_) (λc h4 hh=>?_)
 ·refine hh.elim λM' iD=>iD.2.elim λB' kB=>?_;have Sr:=kB.1;have ev:=kB.2;have hrM:=iD.1;have q4:=Sr.le _ _ k4;have q5:=Sr.le _ _ k5;conv=>whnf
  refine Ag q4 [.int .i64 0] (by simp) rfl (λh5 e5 f5=>?_);conv=>whnf
  refine Ag (cs:=[.bool false]) (t:=4) (by rw[e5];simp only[Heap.set,cH.symm,if_false];exact q5) [.bool true] (by simp) rfl (λh6 e6 f6=>?_);conv=>whnf
  have f56:h6 p4=some (.cells [Value.int .i64 0].toArray 95 (0,0)):=by rw[e6];simp only[Heap.set,cH,if_false];exact f5
  refine IY ?_;conv=>whnf
  repeat' ((first|refine dJ (vs:=[.int .i64 0]) (by simp[fj,rd,f56]) ?_|refine ld (bJ f6 rfl) ?_|refine aq ?_|refine ah ?_|refine ptr ?_)<;>conv=>whnf)
  subst hrM;have hle:h.le h3:=y_ (y_ l4 l5) hn.1;have h64:∀ b,b≠p4->b≠p5->h6 b=h4 b:=λb n4 n5=>by rw[e6,e5];simp only[Heap.set,n4,n5,if_false]
  have n45:∀ b o,h b=some o->b≠p4/\b≠p5:=λb o ho=>⟨(by rintro rfl;rw[CE]at ho;cases ho),(by rintro rfl;rw[OM]at ho;cases ho)⟩
  have fW:∀ b∈bm::B',h6 b=h4 b:=λb hb=>h64 b (by rintro rfl;have:=Sr.fr b hb;rw[k4]at this;cases this) (by rintro rfl;have:=Sr.fr b hb;rw[k5]at this;cases this);obtain⟨le4,⟨mc,tm,iR,own⟩,ON,OO⟩:=Sr;refine⟨rfl,B',⟨λb o ho=>?_,⟨mc,tm,by rw[fW bm (by simp)];exact iR,own.aJ λb hb o ho=>by rw[fW b (by simp[hb])];exact ho⟩,ON,λb hb=>?_⟩,λb hb AX=>?_,λb hb=>?_⟩
  ·rw[h64 b (n45 b o (hM.le b o ho)).1 (n45 b o (hM.le b o ho)).2];exact le4 _ _ (Ai _ _ ho)
  ·cases hh:h0 b with
   | none=>rfl
   | some o=>have:=Ai b o hh;rw[OO b hb]at this;cases this
  ·cases ho:h b with
   | none=>exact absurd ho hb
   | some o=>rw[h64 b (n45 b o ho).1 (n45 b o ho).2,ev.iB b (by rw[hle b o ho];simp) AX,hle b o ho]
  ·refine(ev.new b hb).imp id λs7=>?_;cases ho:h b with
   | none=>rfl
   | some o=>rw[hle b o ho]at s7;cases s7
 ·refine hh.elim λk iD=>?_;have hrk:=iD.1;have hck:=iD.2.1;have hle:=iD.2.2.1;have ng:=iD.2.2.2;subst hrk;subst hck;conv=>whnf
  refine Eg (hle _ _ k4) (hle _ _ k5) cH (λh5 f4 f5 aJ=>?_);conv=>whnf
  repeat' ((first|refine dJ (vs:=[.int .i64 k]) (by simp[fj,rd,f4]) ?_|refine ld (bJ f5 rfl) ?_|refine aq ?_|refine ah ?_|refine ptr ?_)<;>conv=>whnf)
  refine⟨rfl,λb o ho=>?_,?_⟩
  ·have n4:b≠p4:=by rintro rfl;have:=hM.le b o ho;rw[CE]at this;cases this
   have n5:b≠p5:=by rintro rfl;have:=hM.le b o ho;rw[OM]at this;cases this
   have Ul:=hle _ _ (Ai _ _ ho);rw[aJ b n4 n5 (by rw[Ul];simp)];exact Ul
  ·obtain⟨mcs,tm,iR,hlen⟩:=ng;obtain⟨o,ho⟩:=hM.in bm (by simp);have n4:bm≠p4:=by rintro rfl;rw[CE]at ho;cases ho
   have n5:bm≠p5:=by rintro rfl;rw[OM]at ho;cases ho
   exact⟨mcs,tm,by rw[aJ bm n4 n5 (by rw[iR];simp)];exact iR,hlen⟩
def fB (u:aO) (M:bM):bM :=
 if M.fin≠0\/200<=M.steps\/200<=M.said.length\/207<=M.objs.length then M
 else match M.ag.getLast? with
  | none=>M
  | some f=>match kD u M.ag.dropLast f M with
   | .ok M'=>{M' with steps:=M'.steps+1}
   | .error k=>if k=0 then {M with fin:=3,steps:=M.steps+1}else {cK u k M with steps:=(cK u k M).steps+1}
theorem wK {u:aO} {M:bM} {fs:List bQ} {f:bQ} (hf:M.ag=fs++[f]) (hg:¬(M.fin≠0\/200<=M.steps\/200<=M.said.length\/207<=M.objs.length)):fB u M=match kD u fs f M with
   | .ok M'=>{M' with steps:=M'.steps+1}
   | .error k=>if k=0 then {M with fin:=3,steps:=M.steps+1}else {cK u k M with steps:=(cK u k M).steps+1}:=by
 unfold fB;rw[if_neg hg,hf];simp
structure Lk (u:aO) (M:bM):Prop where
 inv:IX u M
 iN:M.fin=0->M.ag≠[]
 send:∀ f∈M.ag,CC u f
 fault:∀ fs f k,M.ag=fs++[f]->kD u fs f M=.error k->k=0\/0 < k/\k<=7
 cls:∀ k,0 < k->k<=7->(aF M.objs k).cls < u.J.length
 steps:0<=M.steps/\M.steps<=200
 Ll:∀ fs f M',M.ag=fs++[f]->kD u fs f M=.ok M'->M'.steps=M.steps
theorem Gl {h:Heap} {bm:Nat} {t:TypeId} {vo vf vs:Value} {M:bM} (hb:h bm=some (.cells ([]++ay vo vf vs M++[]).toArray t (0,0))):fj h bm 0 7=some (ay vo vf vs M):=by
 rw[bO hb 7 0 (by simp[ay])];simp[ay]
def nI (po:Option Addr) (co:Nat) (pf:Option Addr) (cf:Nat) (ps:Option Addr) (cs:Nat) (M:bM):List Value:=ay (.slice po M.objs.length co) (.slice pf M.ag.length cf) (.slice ps M.said.length cs) M
theorem gN.nI {h:Heap} {mc:List Value} {M:bM} {B:List Nat} (ho:gN h mc M B):∃ po co pf cf ps cs,mc=nI po co pf cf ps cs M:=by
 obtain⟨vo,vf,vs,B1,B2,B3,rfl,k1,k2,k3,rfl⟩:=ho;obtain⟨po,co,rfl,_⟩:=k1.form;obtain⟨pf,cf,rfl,_⟩:=k2.form;obtain⟨ps,cs,e,_⟩:=k3.form;exact⟨po,co,pf,cf,ps,cs,by subst e;simp[Go.Proofs.nI,ay]⟩
theorem xF (mc:List Value) (M:bM) (h:Heap) (hr:wI h mc M) :
  bI prog 59 [.agg ⟨mc⟩] h λv h'=>∃ po co pf cf ps cs B,v=.agg ⟨nI po co pf cf ps cs M⟩/\gN h' (nI po co pf cf ps cs M) M B/\Nd B/\(∀ b∈B,h b=none)/\h.le h' :=
 (D8 mc M h hr).mono λv h' ⟨hl,D9,B,e,own,nd,fr⟩=>by
  obtain⟨po,co,pf,cf,ps,cs,e2⟩:=own.nI;subst e2;exact⟨po,co,pf,cf,ps,cs,B,e,own,nd,fr,hl⟩
theorem gV.made {h h1 h2:Heap} {mc:List Value} {M:bM} {B:List Nat} {bm:Nat} {t:TypeId} (own:gN h1 mc M B) (nd:Nd B) (fr:∀ b∈B,h b=none) (hl:h.le h1) (hb:h1 bm=none) (hl2:h1.le h2) (hg:h2 bm=some (.cells mc.toArray t (0,0))):gV h h2 bm [] [] M B:=by
 have hn:bm ∉ B:=λhx=>by
  obtain⟨o,ho⟩:=own.in bm hx;rw[hb]at ho;cases ho
 refine⟨y_ hl hl2,⟨mc,t,by simpa using hg,own.aJ (cR.of_le hl2 _)⟩,?_,λb hx=>?_⟩
 ·intro a;have:=nd a;by_cases ha:bm=a
  ·subst ha;simp[List.count_eq_zero.2 hn]
  ·simp[ha];exact this
 ·rcases List.mem_cons.1 hx with rfl|hx
  ·cases hh:h b with
   | none=>rfl
   | some o=>rw[hl b o hh]at hb;cases hb
  ·exact fr b hx
theorem gV.Za {h h4 h5 h6:Heap} {mc:List Value} {M:bM} {B:List Nat} {bm:Nat} {t:TypeId} {o:Obj} (own:gN h5 mc M B) (nd:Nd B) (fr:∀ b∈B,h4 b=none) (hl:h.le h4) (Ny:h4.le h5) (hb:h4 bm=some o) (hn:h bm=none) (hg:h6 bm=some (.cells mc.toArray t (0,0)))
  (aJ:∀ b,b≠bm->h6 b=h5 b):gV h h6 bm [] [] M B:=by
 have tR:bm ∉ B:=λhx=>by have:=fr bm hx;rw[hb]at this;cases this
 refine⟨λb x hx=>?_,⟨mc,t,by simpa using hg,own.aJ λb fO o ho=>?_⟩,?_,λb hx=>?_⟩
 ·have:b≠bm:=by rintro rfl;rw[hn]at hx;cases hx
  rw[aJ b this];exact Ny _ _ (hl _ _ hx)
 ·have:b≠bm:=by rintro rfl;exact tR fO
  rw[aJ b this];exact ho
 ·intro a;have:=nd a;by_cases ha:bm=a
  ·subst ha;simp[List.count_eq_zero.2 tR]
  ·simp[ha];exact this
 ·rcases List.mem_cons.1 hx with rfl|hx
  ·exact hn
  ·cases hh:h b with
   | none=>rfl
   | some o=>have:=fr b hx;rw[hl _ _ hh]at this;cases this
theorem I0 {cs vs:List Value} (h:vs.length=cs.length):eS cs 0 vs=vs:=by
 have:=m4 (pre:=[]) (x:=cs) (x':=vs) (post:=[]) (n:=0) rfl h;simpa using this
theorem gV.out {h0 h:Heap} {bm:Nat} {M:bM} {B:List Nat} (hM:gV h0 h bm [] [] M B):∃ po co pf cf ps cs,fj h bm 0 7=some (nI po co pf cf ps cs M)/\gN h (nI po co pf cf ps cs M) M B/\Nd B/\∀ b∈B,h0 b=none:=by
 obtain⟨le,⟨mc,t,hb,own⟩,nd,fr⟩:=hM;obtain⟨po,co,pf,cf,ps,cs,rfl⟩:=own.nI;exact⟨po,co,pf,cf,ps,cs,Gl hb,own,nd.less λa=>by simp only[X_];omega,λb hx=>fr b (List.mem_cons_of_mem _ hx)⟩
theorem Gm (mc us:List Value) (u:aO) (M:bM) (h:Heap) (hr:wI h mc M) (hu:dG h us u) (hT:cz u) (hI:M.fin=0->Lk u M) :
  bI prog 29 [.agg ⟨us⟩,.agg ⟨mc⟩] h λv h'=>h.le h'/\∃ D9 B,v=.agg ⟨D9⟩/\gN h' D9 (fB u M) B/\Nd B/\∀ b∈B,h b=none:=by
 have ig:=hr;have Lm:=xF mc M h hr;have iw:=hu;obtain⟨p,cc,q,d,rfl,hcs,fM,ji,hl2⟩:=hu.form;obtain⟨vo,vf,vs,rfl,s1,s2,ho,hf,hs⟩:=hr;obtain⟨po,co,rfl,_,_⟩:=ho.len;obtain⟨pf,cf,rfl,_,_⟩:=hf.len;obtain⟨ps,cs,jB⟩:∃ p c,vs=.slice p M.said.length c:=by
  obtain⟨_,_,p,c,e,_⟩:=hs;exact⟨p,c,by simpa using e⟩
 subst jB;by_cases hg:M.fin≠0\/200<=M.steps\/200<=M.said.length\/207<=M.objs.length
 ·have gM:fB u M=M:=by unfold fB;rw[if_pos hg]
  rw[gM];refine bZ au func29 F29 Vk rfl ?_;conv=>whnf
  repeat' ((first|refine cx ?_|refine bH ?_|refine dF ?_|refine cN ?_|apply ax<;>intro _|apply aT<;>intro _)<;>conv=>whnf)
  all_goals first
   | (exfalso;omega)
   | (
    refine aC Lm (λv h1 hc=>?_);refine hc.elim λpo' hc=>hc.elim λco' hc=>hc.elim λSj hc=>hc.elim λcf' hc=>hc.elim λQB hc=>hc.elim λjU hc=>hc.elim λB hc=>?_;have hv:=hc.1;subst hv;conv=>whnf
    exact⟨hc.2.2.2.2,_,B,rfl,hc.2.1,hc.2.2.1,hc.2.2.2.1⟩)
 have fL:M.fin=0:=by omega
 have eP:=hI fL;refine bZ au func29 F29 Vk rfl ?_;conv=>whnf
 repeat' ((first|refine cx ?_|refine bH ?_|refine dF ?_|refine cN ?_)<;>conv=>whnf)
 have Ss:∃ fs f,M.ag=fs++[f]:=by
  rcases List.eq_nil_or_concat M.ag with e|⟨gs,gl,e⟩
  ·exact absurd e (eP.iN fL)
  ·exact⟨gs,gl,by simpa using e⟩
 refine Ss.elim λfs Ss=>Ss.elim λf gz=>?_;have gM:=wK (u:=u) gz hg;have Zb:=λ(h2:Heap) (bm:Nat) (B:List Nat) (r:Except Int bM) (hr:kD u fs f M=r) (hM:gV h h2 bm [] [] M B)=>IZ h h2 bm _ u fs f M B r hr hM iw gz hT eP.inv (eP.send f (by rw[gz];simp));have Zc:=eP.fault fs f;have Ln:=eP.Ll fs f;have Zd:∀ g∈M.ag,0<=g.U/\g.U < u.methods.length:=λg QT=>(eP.inv.iN g QT).U;have adw:=eP.inv.len;have Eh:=eP.inv.nf;have eB:=eP.steps;generalize iW:kD u fs f M=r at gM Zb Zc Ln;refine aC Lm (λv h1 hc=>?_);refine hc.elim λpo' hc=>hc.elim λco' hc=>hc.elim λSj hc=>hc.elim λcf' hc=>hc.elim λQB hc=>hc.elim λjU hc=>hc.elim λB hc=>?_;have hv:=hc.1;subst hv;have own:=hc.2.1;have ndB:=hc.2.2.1;have frB:=hc.2.2.2.1;have l1:=hc.2.2.2.2;conv=>whnf
 refine ec [.slice none 0 0,.slice none 0 0,.slice none 0 0,.int .i64 0,.int .i64 0,.bool false,.int .i64 0] rfl (λbm h2 fO e2 l2 g2=>?_);conv=>whnf
 refine Ag g2 (nI po' co' Sj cf' QB jU M) (by simp) rfl (λh3 e3 g3=>?_);have l3:h1.le h3:=by
  intro b o hb;have cH:b≠bm:=by rintro rfl;rw[fO]at hb;cases hb
  rw[e3];simp only[Heap.set,cH,if_false];exact l2 b o hb
 have ND:gV h h3 bm [] [] M B:=gV.made own ndB frB l1 fO l3 g3;conv=>whnf
 refine aC (Zb h3 bm B r rfl ND) (λv h4 hv=>?_);cases r with
 | ok M' =>
  refine hv.2.elim λB' Lo=>?_;have JV:=hv.1;subst JV;have Sr:=Lo.1;have Ah:=Lo.2;have JW:=Ln M' gz rfl;have hints:=Sr.ints;obtain⟨t,yW,Ea,og,iR,_,_,_,fe⟩:=hints;have s3:=fe {M' with steps:=M'.steps+1} rfl rfl rfl;have r3:rd h4 bm 3=some (.int .i64 M'.steps):=bE iR (i:=3) rfl rfl;conv=>whnf
  refine ld r3 ?_;conv=>whnf
  refine ah ?_;conv=>whnf
  refine lP iR (i:=3) (ay yW Ea og {M' with steps:=M'.steps+1}) rfl (by simp[ay]) (by rfl) (λh5 e5 g5=>?_);rw[<-e5]at s3;obtain⟨po5,co5,pf5,cf5,ps5,cs5,Ze,Lq,Zf,Zg⟩:=s3.1.out;conv=>whnf
  refine dJ Ze ?_;conv=>whnf
  rw[gM];exact⟨s3.1.le,_,B',rfl,Lq,Zf,Zg⟩
 | error k =>
  have JV:=hv.1;subst JV;have l4:h.le h4:=hv.2.1;have ng:=hv.2.2;have hk7:=Zc k gz rfl;conv=>whnf
  refine aC (xF _ M h4 (ig.le l4)) (λv h5 hc=>?_);refine hc.elim λpo2 hc=>hc.elim λUm hc=>hc.elim λpf2 hc=>hc.elim λcf2 hc=>hc.elim λps2 hc=>hc.elim λUb hc=>hc.elim λB2 hc=>?_;have hv:=hc.1;subst hv;have acA:=hc.2.1;have Un:=hc.2.2.1;have fr2:=hc.2.2.2.1;have l5:=hc.2.2.2.2;refine ng.elim λws ng=>ng.elim λtb ng=>?_;have m3:=ng.1;have Dg:=ng.2;have tR:h bm=none:=by
   cases hh:h bm with
   | none=>rfl
   | some o=>rw[l1 _ _ hh]at fO;cases fO
  conv=>whnf
  refine Ag (l5 _ _ m3) (nI po2 Um pf2 cf2 ps2 Ub M) (by rw[Dg];exact Nat.le_refl 7) (I0 (by rw[Dg];rfl)) (λh6 e6 g6=>?_);have QU:gV h h6 bm [] [] M B2:=gV.Za acA Un fr2 l4 l5 m3 tR g6 (λb hb=>by rw[e6];simp only[Heap.set,hb,if_false]);conv=>whnf
  apply ax<;>intro gk;all_goals conv=>whnf
  ·subst gk;obtain⟨t,yW,Ea,og,iR,_,_,_,fe⟩:=QU.ints;have s3:=(fe {M with fin:=3} rfl rfl rfl).1;refine lP iR (i:=4) (ay yW Ea og {M with fin:=3}) rfl (by simp[ay]) (by rfl) (λh7 e7 g7=>?_);rw[<-e7]at s3;obtain⟨t',Su,Sv,KS,Lr,_,_,_,Sw⟩:=s3.ints;have s4:=(Sw {M with fin:=3,steps:=M.steps+1} rfl rfl rfl).1;have r3:rd h7 bm 3=some (.int .i64 M.steps):=bE Lr (i:=3) rfl rfl;conv=>whnf
   refine ld r3 ?_;conv=>whnf
   refine ah ?_;conv=>whnf
   refine lP Lr (i:=3) (ay Su Sv KS {M with fin:=3,steps:=M.steps+1}) rfl (by simp[ay]) (by rfl) (λh8 e8 g8=>?_);rw[<-e8]at s4;obtain⟨po5,co5,pf5,cf5,ps5,cs5,Ze,Lq,Zf,Zg⟩:=s4.out;conv=>whnf
   refine dJ Ze ?_;conv=>whnf
   rw[gM];exact⟨s4.le,_,B2,rfl,Lq,Zf,Zg⟩
  ·have HF:0 < k/\k<=7:=hk7.resolve_left gk;refine aC (vn h h6 bm _ u M B2 k QU iw hT.1 (by omega) (by omega) (by omega) (eP.cls k HF.1 HF.2) Zd) (λv h7 hv=>?_);refine hv.elim λB7 hv=>?_;have hM7:=hv.1;obtain⟨t',Su,Sv,KS,Lr,_,_,_,Sw⟩:=hM7.ints;have s4:=(Sw {cK u k M with steps:=(cK u k M).steps+1} rfl rfl rfl).1;have adL:(cK u k M).steps=M.steps:=by unfold cK;split<;>rfl
   have r3:rd h7 bm 3=some (.int .i64 (cK u k M).steps):=bE Lr (i:=3) rfl rfl;conv=>whnf
   refine ld r3 ?_;conv=>whnf
   refine ah ?_;conv=>whnf
   refine lP Lr (i:=3) (ay Su Sv KS {cK u k M with steps:=(cK u k M).steps+1}) rfl (by simp[ay]) (by rfl) (λh8 e8 g8=>?_);rw[<-e8]at s4;obtain⟨po5,co5,pf5,cf5,ps5,cs5,Ze,Lq,Zf,Zg⟩:=s4.out;conv=>whnf
   refine dJ Ze ?_;conv=>whnf
   have acB:fB u M = {cK u k M with steps:=(cK u k M).steps+1}:=gM.trans (if_neg gk);rw[acB];exact⟨s4.le,_,B7,rfl,Lq,Zf,Zg⟩
theorem Ei {cs:List eD} (ok:cI cs):∀(k:Nat) {a b c:Int},a.toNat < k->a < cs.length->up cs a b=true->up cs b c=true->up cs a c=true
 | 0,a,b,c,h,_,_,_=>by omega
 | k+1,a,b,c,h,hl,h1,h2=>by
  have h0:=lO h1;rw[iT ok h0 hl]at h1 ⊢;by_cases Qt:a=b
  ·subst Qt;rw[iT ok h0 hl]at h2;exact h2
  ·have hs:=ok.bU h0 hl;simp only[Qt,decide_false,Bool.false_or]at h1;by_cases Sy:a=c
   ·simp[Sy]
   ·simp only[Sy,decide_false,Bool.false_or];exact Ei ok k (by have:=lO h1;omega) (by omega) h1 h2
theorem Zh {cs:List eD} (ok:cI cs) {a b:Int} (hl:a < cs.length) (h:up cs a b=true):b<=a:=by
 rcases Int.lt_or_le a b with hb|hb
 ·rw[FZ ok (a.toNat+1) (by omega) hl hb]at h;cases h
 ·exact hb
theorem wL {cs:List eD} (ok:cI cs):∀(k:Nat) {a b:Int},a.toNat < k->a < cs.length->up cs a b=true->0<=b
 | 0,a,b,h,_,_=>by omega
 | k+1,a,b,h,hl,h1=>by
  have h0:=lO h1;rw[iT ok h0 hl]at h1;by_cases Qt:a=b
  ·omega
  ·have hs:=ok.bU h0 hl;simp only[Qt,decide_false,Bool.false_or]at h1;exact wL ok k (by have:=lO h1;omega) (by omega) h1
theorem HN {c s:Int}:∀(l:List cL) (k:Int),0<=k->jK c s l k = -1\/∃ i,∃ hi:i < l.length,jK c s l k=k+i/\l[i].cls=c/\l[i].fG=s
 | [],k,_=>.inl rfl
 | m::r,k,hk=>by
  rw[jK];split
  ·rename_i h;exact .inr ⟨0,by simp,by simp,h.1,h.2⟩
  ·rcases HN (c:=c) (s:=s) r (k+1) (by omega)with h|⟨i,hi,h1,h2,h3⟩
   ·exact .inl h
   ·exact .inr ⟨i+1,by simpa using hi,by rw[h1];omega,by simpa using h2,by simpa using h3⟩
theorem Ej {u:aO} {c s:Int} (h:0<=jK c s u.methods 0):jK c s u.methods 0 < u.methods.length/\(aV u (jK c s u.methods 0)).cls=c/\(aV u (jK c s u.methods 0)).fG=s:=by
 rcases HN (c:=c) (s:=s) u.methods 0 (by omega)with e|⟨i,hi,e,h2,h3⟩
 ·omega
 ·have e':jK c s u.methods 0=(i:Int):=by omega
  rw[e',gU hi rfl];exact⟨by omega,h2,h3⟩
theorem vr {u:aO} (ok:cI u.J) {s:Int}:∀(k:Nat) {c:Int},c.toNat < k->c < u.J.length->0<=find u c s->up u.J c (aV u (find u c s)).cls=true/\(aV u (find u c s)).fG=s/\find u c s < u.methods.length
 | 0,c,h,_,_=>by omega
 | k+1,c,h,hl,hf=>by
  rcases Int.lt_or_le c 0 with h0|h0
  ·rw[oO h0]at hf;omega
  ·have hs:=ok.bU h0 hl;by_cases ho:0<=jK c s u.methods 0
   ·rw[uX h0 ho];obtain⟨h1,h2,h3⟩:=Ej ho;exact⟨by rw[h2];exact uW ok h0 hl,h3,h1⟩
   ·rw[yd ok h0 hl (by omega)]at hf ⊢;rcases Int.lt_or_le (bG u.J c) 0 with h4|h4
    ·rw[oO h4]at hf;omega
    ·obtain⟨h1,h2,h3⟩:=vr ok k (c:=bG u.J c) (by omega) (by omega) hf;exact⟨by rw[iT ok h0 hl,h1];simp,h2,h3⟩
theorem wM {u:aO} (hu:cz u) {s a:Int} (ha:a < u.J.length) (hf:0<=find u a s):∀(k:Nat) {c:Int},c.toNat < k->c < u.J.length->up u.J c a=true ->
  0<=find u c s/\(aV u (find u c s)).args=(aV u (find u a s)).args/\(aV u (find u c s)).out=(aV u (find u a s)).out
 | 0,c,h,_,_=>by omega
 | k+1,c,h,hl,Ac=>by
  have ok:=hu.1;have h0:=lO Ac;have hs:=ok.bU h0 hl;have acC:=Ac;rw[iT ok h0 hl]at Ac;by_cases hca:c=a
  ·subst hca;exact⟨hf,rfl,rfl⟩
  ·simp only[hca,decide_false,Bool.false_or]at Ac;by_cases ho:0<=jK c s u.methods 0
   ·rw[uX h0 ho];obtain⟨h1,h2,h3⟩:=Ej ho;obtain⟨k1,k2,k3⟩:=vr ok (a.toNat+1) (by omega) ha hf;refine⟨ho,?_⟩;generalize hi:jK c s u.methods 0=i at *;generalize hj:find u a s=j at *;have xp:i.toNat < u.methods.length:=by omega
    have KT:j.toNat < u.methods.length:=by omega
    have ei:=gU (n:=i) xp (by omega);have ej:=gU (n:=j) KT (by omega);by_cases hij:i=j
    ·subst hij;exact⟨rfl,rfl⟩
    ·have hp:=hu.2.2.2.2 i.toNat j.toNat xp KT (by omega);rw[<-ei,<-ej]at hp;have hcj:0<=(aV u j).cls:=wL ok (a.toNat+1) (by omega) ha k1;have:=(hp (by omega) hcj (by rw[h3,k2])).2 (by rw[h2];exact Ei ok (c.toNat+1) (by omega) hl acC k1);exact⟨this.2,this.1⟩
   ·rw[yd ok h0 hl (by omega)];exact wM hu ha hf k (by have:=lO Ac;omega) (by omega) Ac
theorem cz.aV {u:aO} (hu:cz u) {k:Int} (h:0<=k/\k < u.methods.length):nP u (aV u k):=hu.2.2.2.1 _ (iV h)
theorem xG {u:aO} (ok:cI u.J) {s c:Int} (hl:c < u.J.length) (hf:0<=find u c s):0<=(aV u (find u c s)).cls :=
 wL ok (c.toNat+1) (by omega) hl (vr ok (c.toNat+1) (by omega) hl hf).1
theorem wN {m:cL}:(cG m).length=(if 0<=m.cls then 1 else 0)+m.args.length:=by
 unfold cG;split<;>simp<;>omega
theorem AY {u:aO} (hu:cz u) {f:bQ} (hm:0<=f.U/\f.U < u.methods.length):CC u f:=by
 intro x aR rest c hx hk ht hc Ac;have lQ:=(hu.aV hm).2.1.2.2.2.1 x hx;obtain⟨kind,a,b⟩:=x;simp only at hk;subst hk;have ha:=(aI (p:=5) (q:=9) rfl).1 lQ;simp[bz]at ha;obtain⟨ws,m3,hlen,_,_⟩:=kJ ht;simp[di]at m3;have hfa:=m3.1;obtain⟨h1,h2,h3⟩:=wM hu (s:=b) (a:=a) (by omega) (by omega) (c.toNat+1) (by omega) hc Ac;obtain⟨k1,k2,k3⟩:=vr hu.1 (s:=b) (c.toNat+1) (c:=c) (by omega) hc h1;have AZ:=(hu.aV ⟨h1,k3⟩).1;have lI:=xG hu.1 hc h1;have Dk:=AZ.2.2.2.2.2;rw[wN,if_pos lI]at Dk;refine⟨h1,?_,AZ.2.2.2.2.1⟩;rw[hlen,<-m3.2];simp only[List.length_cons,List.length_replicate];rw[<-h2];omega
def kE (n:Nat) (v:Vl):Prop:=(v.ref=true->0<=v.n/\v.n<=n)/\(v.ref=false->isWord v.n=true)
def HO (u:aO) (n:Nat) (o:Ob):Prop:=(∀ v∈o.aW,kE n v)/\(((o.cls = -1\/o.cls = -2)/\o.aW.length<=6)\/(0<=o.cls/\o.cls < u.J.length/\o.aW.length=(dw u.J o.cls).length))
def xH (u:aO) (n:Nat) (f:bQ):Prop:=(0<=f.U/\f.U < u.methods.length)/\(0<=f.pc/\f.pc<=(aV u f.U).code.length)/\(f.locals.length:Int)=(aV u f.U).locals/\f.stack.length<=4/\(∀ v∈f.locals,kE n v)/\∀ v∈f.stack,kE n v
def zf (M:bM):Prop:=((M.fin=0\/M.fin=3)/\M.ag≠[]/\M.out=cU)\/(M.fin=1/\M.ag=[])\/(M.fin=2/\M.ag=[]/\M.out.ref=true/\1<=M.out.n)
structure oh (u:aO) (M:bM):Prop where
 steps:0<=M.steps/\M.steps<=200
 len:7<=M.objs.length/\M.objs.length<=207
 nf:M.ag.length<=4
 kG:M.said.length<=200
 out:kE M.objs.length M.out
 objs:∀ o∈M.objs,HO u M.objs.length o
 low:∀ k,0 < k->k<=7->(aF M.objs k).cls=1
 iN:∀ f∈M.ag,xH u M.objs.length f
 said:∀ n∈M.said,isWord n=true
 fin:zf M
theorem kE.mono {n m:Nat} {v:Vl} (h:kE n v) (hl:n<=m):kE m v:=⟨λhr=>by have:=h.1 hr;omega,h.2⟩
theorem HO.mono {u:aO} {n m:Nat} {o:Ob} (h:HO u n o) (hl:n<=m):HO u m o:=⟨λv hv=>(h.1 v hv).mono hl,h.2⟩
theorem xH.mono {u:aO} {n m:Nat} {f:bQ} (h:xH u n f) (hl:n<=m):xH u m f:=⟨h.1,h.2.1,h.2.2.1,h.2.2.2.1,λv hv=>(h.2.2.2.2.1 v hv).mono hl,λv hv=>(h.2.2.2.2.2 v hv).mono hl⟩
theorem oh.inv {u:aO} {M:bM} (h:oh u M):IX u M where
 objs o ho:=by
  rcases(h.objs o ho).2 with ⟨h1,h2⟩|⟨h1,h2,h3⟩
  ·exact⟨by omega,λh3=>by omega⟩
  ·exact⟨by omega,λ_=>h3⟩
 len:=⟨h.len.1,by have:=h.len.2;omega⟩
 aW o ho v hv:=((h.objs o ho).1 v hv).1
 iN g hg:=by
  obtain⟨h1,h2,h3,h4,h5,h6⟩:=h.iN g hg;exact⟨h1,h2,h3,h4,λv hv=>(h5 v hv).1,λv hv=>(h6 v hv).1⟩
 nf:=h.nf
 said:=by have:=h.kG;omega
structure GW (u:aO) (objs:List Ob) (f:bQ):Prop where
 len:7<=objs.length
 Aj:∀ o∈objs,HO u objs.length o
 low:∀ k,0 < k->k<=7->(aF objs k).cls=1
 iN:xH u objs.length f
theorem vu {u:aO} {objs o':List Ob} {f f':bQ} {v:Vl} (h:GW u objs f) (hv:kE objs.length v) (hp:dH objs f v=.ok (o',f')):o'=objs/\GW u o' f'/\f'.U=f.U/\f'.pc=f.pc/\f'.locals=f.locals/\f'.stack=f.stack++[v]:=by
 unfold dH at hp;split at hp
 ·simp only[Except.ok.injEq,Prod.mk.injEq]at hp;obtain⟨rfl,rfl⟩:=hp;obtain⟨h1,h2,h3,h4,h5,h6⟩:=h.iN;refine⟨rfl,⟨h.len,h.Aj,h.low,h1,h2,h3,by simp;omega,h5,λw hw=>?_⟩,rfl,rfl,rfl,rfl⟩;simp only[u_,V_]at hw;rcases hw with hw|rfl
  ·exact h6 w hw
  ·exact hv
 ·cases hp
theorem Ls {objs:List Ob} {o:Ob} {k:Int} (h:0 < k) (hl:k<=objs.length):aF (objs++[o]) k=aF objs k:=by
 have hi:(k-1).toNat < objs.length:=by omega
 unfold aF;simp only[S_,List.getElem?_append_left hi]
theorem rF {n:Nat} {k:Int} (h : -128<=k/\k<=127):kE n ⟨false,k⟩:=⟨λhr=>(by cases hr),λ_=>fJ.2 h⟩
theorem I1 (n:Nat) (t:Int):kE n (nothing t):=by
 unfold nothing kE;refine⟨λ_=>by simp,λ_=>by show isWord 0=true;decide⟩
theorem Sz {u:aO} {objs o':List Ob} {f f':bQ} {k:Int} {types:List Int} (h:GW u objs f) (hc:((k = -1\/k = -2)/\types.length<=6)\/(0<=k/\k < u.J.length/\types.length=(dw u.J k).length))
  (hp:sZ k types objs f=.ok (o',f')):o'=objs++[⟨k,types.map nothing⟩]/\GW u o' f'/\f'.U=f.U/\f'.pc=f.pc:=by
 unfold sZ at hp;have hG:GW u (objs++[⟨k,types.map nothing⟩]) f:=by
  refine⟨by have:=h.len;simp;omega,λo ho=>?_,λj h1 h2=>by rw[Ls h1 (by have:=h.len;omega)];exact h.low j h1 h2,h.iN.mono (by simp)⟩;simp only[u_,V_]at ho;rcases ho with ho|rfl
  ·exact(h.Aj o ho).mono (by simp)
  ·refine⟨λv hv=>?_,by simpa using hc⟩;simp only[List.mem_map]at hv;obtain⟨t,_,rfl⟩:=hv;exact I1 _ _
 obtain⟨e1,e2,e3,e4,_⟩:=vu hG ⟨λ_=>by simp;omega,λhr=>by cases hr⟩ hp;exact⟨e1,e2,e3,e4⟩
theorem Lt {objs:List Ob} {n:Int} (h:0 < n) (hl:n<=objs.length):∃ hi:(n-1).toNat < objs.length,aF objs n=objs[(n-1).toNat] :=
 ⟨by omega,vj (by omega) (by omega)⟩
theorem iY {objs:List Ob} {n:Int} (h:0 < n) (hl:n<=objs.length):aF objs n∈objs:=by
 obtain⟨hi,e⟩:=Lt h hl;rw[e];exact x_ hi
theorem Lu {objs:List Ob} {n k:Int} {o:Ob} (h:0 < n) (hl:n<=objs.length) (hk:0 < k):aF (objs.set (n-1).toNat o) k=if k=n then o else aF objs k:=by
 unfold aF;simp only[S_,List.getElem?_set];by_cases YV:k=n
 ·subst YV;rw[if_pos rfl,if_pos (by omega),if_pos rfl];rfl
 ·rw[if_neg (by omega),if_neg YV]
theorem QV {u:aO} {objs:List Ob} {f:bQ} {n i:Int} {v:Vl} (h:GW u objs f) (hn:0 < n) (hl:n<=objs.length) (hv:kE objs.length v):GW u (ij objs n (putAt (aF objs n).aW i v)) f:=by
 have hlen:(ij objs n (putAt (aF objs n).aW i v)).length=objs.length:=by simp[ij]
 have hO:=h.Aj _ (iY hn hl);refine⟨by rw[hlen];exact h.len,λo ho=>?_,λk h1 h2=>?_,by rw[hlen];exact h.iN⟩
 ·rw[hlen];unfold ij at ho;rcases List.mem_or_eq_of_mem_set ho with ho|rfl
  ·exact h.Aj o ho
  ·refine⟨λw hw=>?_,by simpa [putAt]using hO.2⟩;rcases List.mem_or_eq_of_mem_set hw with hw|rfl
   ·exact hO.1 w hw
   ·exact hv
 ·unfold ij;rw[Lu hn hl h1];split
  ·rename_i e;subst e;exact h.low k h1 h2
  ·exact h.low k h1 h2
theorem kK {objs:List Ob} {n:Int} {so:Bool} {o:Ob} (h:eE objs n so=.ok o):(0 < n->so=true)/\n≠0/\o=aF objs n:=by
 unfold eE at h;split at h
 ·cases h
 ·rename_i h1;split at h
  ·cases h
  ·rename_i h2;simp only[Except.ok.injEq]at h;refine⟨λhn=>?_,h2,h.symm⟩;cases so with
   | true=>rfl
   | false=>exact absurd ⟨hn,rfl⟩ h1
theorem Ek {objs:List Ob} {x:Vl} {k n:Int} {o:Ob} (h:qi objs x k n=.ok o):(0 < x.n->(aF objs x.n).cls=qh k)/\x.n≠0/\o=aF objs x.n/\0<=n/\n < o.aW.length:=by
 unfold qi at h;split at h
 ·cases h
 ·rename_i o1 h1;obtain⟨a1,a2,rfl⟩:=kK h1;split at h
  ·rename_i h2;simp only[Except.ok.injEq]at h;subst h;exact⟨λhn=>by simpa using a1 hn,a2,rfl,h2⟩
  ·cases h
theorem um {n:Nat} {l:List Vl} {i:Nat} (h:∀ v∈l,kE n v):kE n (l.getD i cU):=by
 rw[S_];cases hi:l[i]? with
 | none=>exact rF (by decide)
 | some v=>exact h v (List.mem_of_getElem? hi)
def vw (u:aO) (x:ez):Prop:=(x.kind=12\/x.kind=17\/x.kind=18\/x.kind=19->0<=x.a/\x.a < u.J.length)/\(x.kind=17\/x.kind=18->0<=x.b/\x.b < (dw u.J x.a).length)
theorem I2 {u:aO} {x:ez} {aR:List Vl} {objs o':List Ob} {f f':bQ} (h:GW u objs f) (ht:qD u x aR objs.length) (hw:∀ v∈aR,kE objs.length v) (hx:vw u x)
  (hp:bD u x aR objs f=.ok (o',f')):GW u o' f'/\(o'.length=objs.length\/o'.length=objs.length+1)/\f'.U=f.U/\f'.pc=f.pc:=by
 obtain⟨kind,xa,xb⟩:=x;obtain⟨t13,t14,t15,t16,t17,t18,t19,tr⟩:=ht;simp only[vw]at t13 t14 t15 t16 t17 t18 t19 hx;have A1:∀ v∈aR,v.ref=true->v.n≠0->0 < v.n/\v.n<=objs.length:=λv hv hr h0=>by have:=tr v hv hr;omega
 have qI:∀ {v:Vl} {f1:bQ} {o1:List Ob},kE objs.length v->dH objs f v=.ok (o1,f1)->GW u o1 f1/\(o1.length=objs.length\/o1.length=objs.length+1)/\f1.U=f.U/\f1.pc=f.pc:=by
  intro v f1 o1 hv hp;obtain⟨rfl,e2,e3,e4,_⟩:=vu h hv hp;exact⟨e2,.inl rfl,e3,e4⟩
 have Zi:∀ {k:Int} {types:List Int} {f1:bQ} {o1:List Ob},((k = -1\/k = -2)/\types.length<=6)\/(0<=k/\k < u.J.length/\types.length=(dw u.J k).length)->sZ k types objs f=.ok (o1,f1)->GW u o1 f1/\(o1.length=objs.length\/o1.length=objs.length+1)/\f1.U=f.U/\f1.pc=f.pc:=by
  intro k types f1 o1 hk hp;obtain⟨rfl,e2,e3,e4⟩:=Sz h hk hp;exact⟨e2,.inr (by simp),e3,e4⟩
 simp only[bD]at hp;by_cases JX:kind=12
 ·rw[if_pos JX]at hp;exact Zi (.inr ⟨(hx.1 (by simp[JX])).1,(hx.1 (by simp[JX])).2,rfl⟩) hp
 rw[if_neg JX]at hp;by_cases OP:kind=13
 ·rw[if_pos OP]at hp;split at hp
  ·exact Zi (.inl ⟨by unfold qh;split<;>simp,by rw[List.length_replicate];omega⟩) hp
  ·cases hp
 rw[if_neg OP]at hp;by_cases NI:kind=14
 ·rw[if_pos NI]at hp;obtain⟨a,rfl,hr⟩:=t14 NI;split at hp
  ·cases hp
  ·rename_i o h1;obtain⟨a1,a2,rfl⟩:=kK h1;have hb:=A1 a (by simp) hr a2;have hO:=h.Aj _ (iY hb.1 hb.2);have hc:=a1 hb.1;simp only[List.getD_cons_zero,decide_eq_true_eq]at hc;refine qI ⟨λhr=>(by cases hr),λ_=>fJ.2 ?_⟩ hp;simp only[List.getD_cons_zero];rcases hO.2 with ⟨_,h2⟩|⟨h2,_,_⟩
   ·omega
   ·omega
 rw[if_neg NI]at hp;by_cases NJ:kind=15
 ·rw[if_pos NJ]at hp;obtain⟨a,b,rfl,hr⟩:=t15 NJ;split at hp
  ·cases hp
  ·rename_i o h1;obtain⟨a1,a2,rfl,_⟩:=Ek h1;have hb:=A1 a (by simp) hr a2;exact qI (um (h.Aj _ (iY hb.1 hb.2)).1) hp
 rw[if_neg NJ]at hp;by_cases NK:kind=16
 ·rw[if_pos NK]at hp;obtain⟨a,b,c,rfl,hr⟩:=t16 NK;split at hp
  ·cases hp
  ·rename_i o h1;obtain⟨a1,a2,rfl,_⟩:=Ek h1;have hb:=A1 a (by simp) hr a2;simp only[Except.ok.injEq,Prod.mk.injEq]at hp;obtain⟨rfl,rfl⟩:=hp;exact⟨QV h hb.1 hb.2 (hw c (by simp)),.inl (by simp[ij]),rfl,rfl⟩
 rw[if_neg NK]at hp;by_cases NL:kind=17
 ·rw[if_pos NL]at hp;obtain⟨a,rfl,hr⟩:=t17 NL;split at hp
  ·cases hp
  ·rename_i o h1;obtain⟨a1,a2,rfl⟩:=kK h1;have hb:=A1 a (by simp) hr a2;exact qI (um (h.Aj _ (iY hb.1 hb.2)).1) hp
 rw[if_neg NL]at hp;by_cases NM:kind=18
 ·rw[if_pos NM]at hp;obtain⟨a,b,rfl,hr⟩:=t18 NM;split at hp
  ·cases hp
  ·rename_i o h1;obtain⟨a1,a2,rfl⟩:=kK h1;have hb:=A1 a (by simp) hr a2;simp only[Except.ok.injEq,Prod.mk.injEq]at hp;obtain⟨rfl,rfl⟩:=hp;exact⟨QV h hb.1 hb.2 (hw b (by simp)),.inl (by simp[ij]),rfl,rfl⟩
 rw[if_neg NM]at hp;by_cases OQ:kind=19
 ·rw[if_pos OQ]at hp;obtain⟨a,rfl,hr⟩:=t19 OQ;split at hp
  ·cases hp
  ·exact qI (hw a (by simp)) hp
 rw[if_neg OQ]at hp;simp only[Except.ok.injEq,Prod.mk.injEq]at hp;obtain⟨rfl,rfl⟩:=hp;exact⟨h,.inl rfl,rfl,rfl⟩
theorem SA {u:aO} {x:ez} {cP aR rest:List Vl} {n:Nat} (ht:ee u x cP=some (aR,rest)) (hv:∀ v∈cP,kE n v):qD u x aR n:=by
 obtain⟨ws,m3,hlen,eP,rfl⟩:=kJ ht;obtain⟨kind,a,b⟩:=x;refine⟨λhk=>?_,λhk=>?_,λhk=>?_,λhk=>?_,λhk=>?_,λhk=>?_,λhk=>?_,λv SB hr=>(hv v (by simp[SB])).1 hr⟩;all_goals
  simp only at hk;subst hk;simp[di]at m3;subst m3
 ·exact gu hlen
 ·obtain⟨v,rfl⟩:=gu hlen;exact⟨v,rfl,by simpa [jD]using eP⟩
 ·obtain⟨v,w,rfl⟩:=uh hlen;exact⟨v,w,rfl,by simp[jD]at eP;exact eP.1⟩
 ·obtain⟨v,w,z,rfl⟩:=Ef hlen;exact⟨v,w,z,rfl,by simp[jD]at eP;exact eP.1⟩
 ·obtain⟨v,rfl⟩:=gu hlen;exact⟨v,rfl,by simpa [jD]using eP⟩
 ·obtain⟨v,w,rfl⟩:=uh hlen;exact⟨v,w,rfl,by simp[jD]at eP;exact eP⟩
 ·obtain⟨v,rfl⟩:=gu hlen;exact⟨v,rfl,by simpa [jD]using eP⟩
theorem GW.loc {u:aO} {objs:List Ob} {f:bQ} (h:GW u objs f) (i:Nat) {v:Vl} (hv:kE objs.length v):GW u objs {f with locals:=f.locals.set i v}:=by
 obtain⟨h1,h2,h3,h4,h5,h6⟩:=h.iN;refine⟨h.len,h.Aj,h.low,h1,h2,by simpa using h3,h4,λw hw=>?_,h6⟩;rcases List.mem_or_eq_of_mem_set hw with hw|rfl
 ·exact h5 w hw
 ·exact hv
theorem sM {objs:List Ob} {f:bQ} {said:List Int} {v:Vl} {r:List Ob × bQ × List Int × Bool} (h:fA objs f said v=.ok r):∃ o g,dH objs f v=.ok (o,g)/\r=(o,g,said,false):=by
 unfold fA at h;split at h
 ·rename_i o g hp;simp only[Except.ok.injEq]at h;exact⟨o,g,hp,h.symm⟩
 ·cases h
theorem OR {op a b:Int} : -128<=(iJ op a b).1/\(iJ op a b).1<=127:=by
 unfold iJ;have:=qC (a+b);have:=qC (a-b);have:=qC (a*b);have:=qC (a.tdiv b);repeat' split
 all_goals simp only
 all_goals omega
theorem eU.wO {u:aO} {m:cL} {x:ez} (hx:eU u m x):vw u x:=by
 obtain⟨kind,a,b⟩:=x;refine⟨λhk=>?_,λhk=>?_⟩
 ·simp only at hk;rcases hk with rfl|rfl|rfl|rfl
  ·have:=(aI (p:=5) (q:=0) rfl).1 hx;simp[bz]at this;exact this.1
  ·have:=(aI (p:=5) (q:=8) rfl).1 hx;simp[bz]at this;exact this.1
  ·have:=(aI (p:=5) (q:=8) rfl).1 hx;simp[bz]at this;exact this.1
  ·have:=(aI (p:=5) (q:=0) rfl).1 hx;simp[bz]at this;exact this.1
 ·simp only at hk;rcases hk with rfl|rfl
  ·have:=(aI (p:=5) (q:=8) rfl).1 hx;simp[bz]at this;exact this.2
  ·have:=(aI (p:=5) (q:=8) rfl).1 hx;simp[bz]at this;exact this.2
theorem SC {u:aO} {m:cL} {x:ez} {aR:List Vl} {objs o':List Ob} {f g:bQ} {said gP:List Int} {kq:Bool} (h:GW u objs f) (ht:qD u x aR objs.length) (hw:∀ v∈aR,kE objs.length v) (hx:eU u m x)
  (h24:x.kind=24->∃ a,aR=[a]/\a.ref=false)
  (hp:gG u x aR objs f said=.ok (o',g,gP,kq)):GW u o' g/\(o'.length=objs.length\/o'.length=objs.length+1)/\g.U=f.U/\g.pc=f.pc/\(gP=said\/∃ w,isWord w=true/\gP=said++[w])/\(kq=true->8<=x.kind/\x.kind<=11):=by
 have NN:=hx.wO;obtain⟨kind,xa,xb⟩:=x;have qI:∀ {v:Vl},kE objs.length v->fA objs f said v=.ok (o',g,gP,kq)->GW u o' g/\(o'.length=objs.length\/o'.length=objs.length+1)/\g.U=f.U/\g.pc=f.pc/\(gP=said\/∃ w,isWord w=true/\gP=said++[w])/\(kq=true->8<=kind/\kind<=11):=by
  intro v hv hp;obtain⟨o1,g1,h1,e⟩:=sM hp;simp only[Prod.mk.injEq]at e;obtain⟨rfl,rfl,rfl,rfl⟩:=e;obtain⟨rfl,e2,e3,e4,_⟩:=vu h hv h1;exact⟨e2,.inl rfl,e3,e4,.inl rfl,λhx=>by cases hx⟩
 have El:∀ {b:Bool},(b=true->8<=kind/\kind<=11)->(Except.ok (objs,f,said,b):Sk)=.ok (o',g,gP,kq)->GW u o' g/\(o'.length=objs.length\/o'.length=objs.length+1)/\g.U=f.U/\g.pc=f.pc/\(gP=said\/∃ w,isWord w=true/\gP=said++[w])/\(kq=true->8<=kind/\kind<=11):=by
  intro b hb e;simp only[Except.ok.injEq,Prod.mk.injEq]at e;obtain⟨rfl,rfl,rfl,rfl⟩:=e;exact⟨h,.inl rfl,rfl,rfl,.inl rfl,hb⟩
 simp only[gG]at hp;by_cases k1:kind=1
 ·rw[if_pos k1]at hp;subst k1;have:=(aI (p:=1) (q:=0) rfl).1 hx;simp[bz]at this;exact qI (rF (fJ.1 this.1)) hp
 rw[if_neg k1]at hp;by_cases k2:kind=2
 ·rw[if_pos k2]at hp;exact qI ⟨λ_=>by simp,λhr=>by cases hr⟩ hp
 rw[if_neg k2]at hp;by_cases k3:kind=3
 ·rw[if_pos k3]at hp;exact qI (um h.iN.2.2.2.2.1) hp
 rw[if_neg k3]at hp;by_cases k4:kind=4
 ·rw[if_pos k4]at hp;simp only[Except.ok.injEq,Prod.mk.injEq]at hp;obtain⟨rfl,rfl,rfl,rfl⟩:=hp;exact⟨h.loc _ (um hw),.inl rfl,rfl,rfl,.inl rfl,λhx=>by cases hx⟩
 rw[if_neg k4]at hp;by_cases k5:kind=5
 ·rw[if_pos k5]at hp;exact El (λhx=>by cases hx) hp
 rw[if_neg k5]at hp;by_cases k6:kind=6
 ·rw[if_pos k6]at hp;split at hp
  ·rename_i o1 g1 h1;obtain⟨rfl,e2,e3,e4,_⟩:=vu h (um hw) h1;obtain⟨o2,g2,h2,e⟩:=sM hp;simp only[Prod.mk.injEq]at e;obtain⟨rfl,rfl,rfl,rfl⟩:=e;obtain⟨rfl,e2,e3',e4',_⟩:=vu e2 (um hw) h2;exact⟨e2,.inl rfl,by rw[e3',e3],by rw[e4',e4],.inl rfl,λhx=>by cases hx⟩
  ·cases hp
 rw[if_neg k6]at hp;by_cases k7:kind=7
 ·rw[if_pos k7]at hp;split at hp
  ·exact qI (rF OR) hp
  ·cases hp
 rw[if_neg k7]at hp;by_cases k8:kind=8
 ·rw[if_pos k8]at hp;exact El (λ_=>by omega) hp
 rw[if_neg k8]at hp;by_cases k9:kind=9
 ·rw[if_pos k9]at hp;exact El (λ_=>by omega) hp
 rw[if_neg k9]at hp;by_cases A2:kind=10
 ·rw[if_pos A2]at hp;exact El (λ_=>by omega) hp
 rw[if_neg A2]at hp;by_cases JY:kind=11
 ·rw[if_pos JY]at hp;exact El (λ_=>by omega) hp
 rw[if_neg JY]at hp;by_cases A3:kind=24
 ·rw[if_pos A3]at hp;obtain⟨a,rfl,hr⟩:=h24 A3;simp only[Except.ok.injEq,Prod.mk.injEq]at hp;obtain⟨rfl,rfl,rfl,rfl⟩:=hp;exact⟨h,.inl rfl,rfl,rfl,.inr ⟨a.n,(hw a (by simp)).2 hr,rfl⟩,λhx=>by cases hx⟩
 rw[if_neg A3]at hp;split at hp
 ·rename_i o1 g1 h1;simp only[Except.ok.injEq,Prod.mk.injEq]at hp;obtain⟨rfl,rfl,rfl,rfl⟩:=hp;obtain⟨e1,e2,e3,e4⟩:=I2 h ht hw NN h1;exact⟨e1,e2,e3,e4,.inl rfl,λhx=>by cases hx⟩
 ·cases hp
theorem Ba {u:aO} {c pc:Int}:∀ {l:List nK} {k:nK},m5 u c pc l=some k->k∈l/\(k.lo<=pc/\pc < k.hi)/\up u.J c k.cls=true
 | [],_,h=>by cases h
 | m::r,k,h=>by
  rw[m5]at h;split at h
  ·rename_i hc;simp only[v_]at h;subst h;exact⟨by simp,hc.1,hc.2⟩
  ·obtain⟨h1,h2⟩:=Ba h;exact⟨by simp[h1],h2⟩
def yh (u:aO) (s:Bool) (g k:bQ):Prop:=g.pc < (aV u g.U).code.length /\
 (s=true->(((aV u g.U).code.getD g.pc.toNat ep).kind=20/\((aV u g.U).code.getD g.pc.toNat ep).a=k.U) \/
  (((aV u g.U).code.getD g.pc.toNat ep).kind=21/\0<=(aV u k.U).cls/\(aV u k.U).fG=((aV u g.U).code.getD g.pc.toNat ep).b))
def nh (u:aO) (l:List bQ) (s:Bool:=true):Prop:=∀ gs g k hs,l=gs++g::k::hs->yh u s g k
theorem nh.pre {u:aO} {s:Bool} {a b:List bQ} (h:nh u (a++b) s):nh u a s:=λgs g k hs e=>h gs g k (hs++b) (by rw[e];simp)
theorem nh.last {u:aO} {s:Bool} {fs:List bQ} {f f':bQ} (h:nh u (fs++[f]) s) (hm:f'.U=f.U):nh u (fs++[f']) s:=by
 intro gs g k hs e;rcases List.eq_nil_or_concat hs with rfl|⟨JW,z,rfl⟩
 ·have e':fs++[f']=(gs++[g])++[k]:=by rw[e];simp
  obtain⟨rfl,e2⟩:=List.append_inj' e' rfl;simp only[List.cons.injEq,and_true]at e2;subst e2;have:=h gs g f [] (by simp);unfold yh at this ⊢;rw[hm];exact this
 ·have e':fs++[f']=(gs++g::k::JW)++[z]:=by rw[e];simp
  obtain⟨rfl,e2⟩:=List.append_inj' e' rfl;exact h gs g k (JW++[f]) (by simp)
theorem nh.push {u:aO} {s:Bool} {fs:List bQ} {f k:bQ} (h:nh u (fs++[f]) s) (hc:yh u s f k):nh u (fs++[f]++[k]) s:=by
 intro gs g k' hs e;rcases List.eq_nil_or_concat hs with rfl|⟨JW,z,rfl⟩
 ·have e':fs++[f]++[k]=(gs++[g])++[k']:=by rw[e];simp
  obtain⟨e1,e2⟩:=List.append_inj' e' rfl;obtain⟨_,e3⟩:=List.append_inj' e1 rfl;simp only[List.cons.injEq,and_true]at e2 e3;subst e2 e3;exact hc
 ·have e':fs++[f]++[k]=(gs++g::k'::JW)++[z]:=by rw[e];simp
  obtain⟨e1,_⟩:=List.append_inj' e' rfl;exact h gs g k' JW e1
theorem rG {u:aO} {c n:Int}:∀ {l l':List bQ},wJ u c n l=some l'->∃ l1 f r k,l=l1++f::r/\k∈(aV u f.U).catches/\l' = {f with pc:=k.to,stack:=[⟨true,n⟩]}::r
 | [],_,h=>by cases h
 | f::r,l',h=>by
  rw[wJ]at h;split at h
  ·rename_i t ht;simp only[v_]at h;exact⟨[],f,r,t,rfl,(Ba ht).1,h.symm⟩
  ·obtain⟨l1,g,r',k,rfl,h2,h3⟩:=rG h;exact⟨f::l1,g,r',k,rfl,h2,h3⟩
theorem Lv {u:aO} (hu:cz u) {c n:Int} {k:Nat} (hn:0<=n/\n<=k) {l l':List bQ} (h:wJ u c n l=some l') (hf:∀ f∈l,xH u k f) (s:Bool:=true):l'≠[]/\l'.length<=l.length/\(∀ f∈l',xH u k f)/\(nh u l.reverse s->nh u l'.reverse s):=by
 obtain⟨l1,f,r,t,rfl,ht,rfl⟩:=rG h;refine⟨by simp,by simp,λg hg=>?_,λhl=>?_⟩
 ·rcases List.mem_cons.1 hg with rfl|hg
  ·obtain⟨h1,h2,h3,h4,h5,h6⟩:=hf f (by simp);have hc:=(hu.aV h1).2.2.2 t ht;have:=hc.1;refine⟨h1,⟨by show 0<=t.to;omega,by show t.to<=((aV u f.U).code.length:Int);omega⟩,h3,by simp,h5,λv hv=>?_⟩;simp only[V_]at hv;subst hv;exact⟨λ_=>hn,λhr=>by cases hr⟩
  ·exact hf g (by simp[hg])
 ·have e:(l1++f::r).reverse=(r.reverse++[f])++l1.reverse:=by simp
  rw[e]at hl;have:=hl.pre.last (f':={f with pc:=t.to,stack:=[⟨true,n⟩]}) rfl;simpa using this
theorem Em {u:aO} (hu:cz u) {M:bM} (h:oh u M) (fL:M.fin=0) {n:Int} (hn:0 < n/\n<=M.objs.length) (s:Bool:=true):oh u (cK u n M)/\(nh u M.ag s->nh u (cK u n M).ag s):=by
 have fK:M.out=cU:=by
  rcases h.fin with h1|h1|h1
  ·exact h1.2.2
  ·omega
  ·omega
 unfold cK;split
 ·rename_i l hl;obtain⟨h1,h2,h3,h4⟩:=Lv hu (k:=M.objs.length) (by omega) hl (λf hf=>h.iN f (by simpa using hf)) s;refine⟨⟨h.steps,h.len,?_,h.kG,h.out,h.objs,h.low,λf hf=>h3 f (by simpa using hf),h.said,.inl ⟨.inl fL,by simpa using h1,fK⟩⟩,by simpa using h4⟩;have:=h.nf;simp only[List.length_reverse]at h2 ⊢;omega
 ·refine⟨⟨h.steps,h.len,by simp,h.kG,⟨λ_=>⟨by show 0<=n;omega,hn.2⟩,λhr=>by cases hr⟩,h.objs,h.low,λf hf=>(by cases hf),h.said,.inr (.inr ⟨rfl,rfl,rfl,by show 1<=n;omega⟩)⟩,λ_ gs g k hs e=>?_⟩;have:=congrArg List.length e;simp at this
theorem HP {u:aO} {M M':bM} {to:Int} {aR:List Vl} (h:oh u M) (fL:M.fin=0) (Di:0<=to/\to < u.methods.length) (hl:(aR.length:Int)<=(aV u to).locals) (hw:∀ v∈aR,kE M.objs.length v) {fs:List bQ} {f:bQ} (gz:M.ag=fs++[f]) {s:Bool} (hk:nh u M.ag s) (hc:yh u s f (gO u to aR)) (hp:jA u to aR M=.ok M'):oh u M'/\nh u M'.ag s/\M'.steps=M.steps:=by
 have fK:M.ag≠[]/\M.out=cU:=by
  rcases h.fin with h1|h1|h1
  ·exact h1.2
  ·omega
  ·omega
 unfold jA at hp;split at hp
 ·cases hp
 ·rename_i h4;simp only[Except.ok.injEq]at hp;subst hp;refine⟨⟨h.steps,h.len,by simp;omega,h.kG,h.out,h.objs,h.low,λf hf=>?_,h.said,.inl ⟨.inl fL,by simp,fK.2⟩⟩,?_,rfl⟩;rotate_left
  ·show nh u (M.ag++[gO u to aR]) s;rw[gz]at hk ⊢;exact hk.push hc
  simp only[u_,V_]at hf;rcases hf with hf|rfl
  ·exact h.iN f hf
  ·refine⟨Di,⟨by simp[gO],by simp[gO]⟩,?_,by simp[gO],λv hv=>?_,λv hv=>by simp[gO]at hv⟩
   ·simp only[gO,U_,List.length_replicate];omega
   ·simp only[gO,u_]at hv;rcases hv with hv|hv
    ·exact hw v hv
    ·rw[List.eq_of_mem_replicate hv];exact rF (by decide)
theorem Zj {u:aO} {s:Bool} (hu:cz u) {M M':bM} {fs:List bQ} {f:bQ} (h:oh u M) (fL:M.fin=0) (hf:M.ag=fs++[f]) (hs:M.said.length < 200) (ho:M.objs.length < 207) (Dl:nh u M.ag s) (hp:kD u fs f M=.ok M'):oh u M'/\nh u M'.ag s/\M'.steps=M.steps:=by
 have Fq:f∈M.ag:=by rw[hf];simp
 have hF:=h.iN f Fq;have hmT:=hu.aV hF.1;have fK:M.out=cU:=by
  rcases h.fin with h1|h1|h1
  ·exact h1.2.2
  ·omega
  ·omega
 unfold kD at hp;simp only at hp;split at hp
 ·cases hp
 rename_i AW;have bV:f.pc.toNat < (aV u f.U).code.length:=by have:=hF.2.1.1;omega
 have Kh:(aV u f.U).code[f.pc.toNat]∈(aV u f.U).code:=x_ _;have jW:(aV u f.U).code.getD f.pc.toNat ep=(aV u f.U).code[f.pc.toNat]:=by simp[bV]
 have lQ:=hmT.2.1.2.2.2.1 _ Kh;rw[jW]at hp;generalize hxe:(aV u f.U).code[f.pc.toNat]=x at Kh lQ hp;split at hp
 ·cases hp
 rename_i aR rest ht;have eB:=kJ ht;obtain⟨ws,m3,Dg,eP,hsk⟩:=eB;have Lh:∀ v∈rest,kE M.objs.length v:=λv hv=>hF.2.2.2.2.2 v (by rw[hsk];simp[hv]);have Bb:∀ v∈aR,kE M.objs.length v:=λv hv=>hF.2.2.2.2.2 v (by rw[hsk];simp[hv]);have NO:rest.length<=4:=by have:=hF.2.2.2.1;rw[hsk]at this;simp at this;omega
 have hF1:xH u M.objs.length {f with stack:=rest}:=⟨hF.1,hF.2.1,hF.2.2.1,NO,hF.2.2.2.2.1,Lh⟩
 have hG1:GW u M.objs {f with stack:=rest}:=⟨h.len.1,h.objs,h.low,hF1⟩
 have qO:∀ g∈fs,xH u M.objs.length g:=λg hg=>h.iN g (by rw[hf];simp[hg]);have QK:fs.length+1<=4:=by have:=h.nf;rw[hf]at this;simpa using this
 have ye:oh u {M with ag:=fs++[{f with stack:=rest}]}:=⟨h.steps,h.len,by simpa using QK,h.kG,h.out,h.objs,h.low,λg hg=>by
  simp only[u_,V_]at hg;rcases hg with hg|rfl
  ·exact qO g hg
  ·exact hF1,h.said,.inl ⟨.inl fL,by simp,fK⟩⟩
 have hT:=SA ht hF.2.2.2.2.2;rw[hf]at Dl;have SD:nh u (fs++[{f with stack:=rest}]) s:=Dl.last rfl;have hxg:(aV u f.U).code.getD f.pc.toNat ep=x:=by rw[jW];exact hxe
 split at hp
 ·rename_i hk;obtain⟨kind,a,b⟩:=x;simp only[gW]at hp hk;by_cases OS:kind=20
  ·rw[if_pos OS]at hp;subst OS;have:=(aI (p:=7) (q:=0) rfl).1 lQ;simp[bz]at this;have ha:=this.1.1;have AZ:=(hu.aV ha).1;have Dk:=AZ.2.2.2.2.2;rw[wN,if_neg (by omega)]at Dk;simp[di]at m3;subst m3;have s9:(aR.length:Int)<=(aV u a).locals:=by rw[Dg];simp;omega
   have wA:((aV u f.U).code.getD f.pc.toNat ep).kind=20/\((aV u f.U).code.getD f.pc.toNat ep).a=a:=by rw[hxg];exact⟨rfl,rfl⟩
   have jv:=HP ye fL ha s9 Bb rfl SD ⟨(by show f.pc < ((aV u f.U).code.length:Int);omega),λ_=>.inl wA⟩ hp;exact jv
  rw[if_neg OS]at hp;by_cases OT:kind=21
  ·rw[if_pos OT]at hp;subst OT;split at hp
   ·cases hp
   rename_i o h1;obtain⟨a1,a2,rfl⟩:=kK h1;simp[di]at m3;have ji:aR.length=(aV u (find u a b)).args.length+1:=by rw[Dg,<-m3.2];simp
   obtain⟨v,r,rfl⟩:∃ v r,aR=v::r:=by
    cases aR with
    | nil=>simp at ji
    | cons v r=>exact⟨v,r,rfl⟩
   have hr:v.ref=true:=by rw[<-m3.2]at eP;simp[jD]at eP;exact eP.1
   simp only[List.getD_cons_zero]at a1 a2 hp;have hb:=(Bb v (by simp)).1 hr;have Ac:=a1 (by omega);have hO:=h.objs _ (iY (objs:=M.objs) (n:=v.n) (by omega) hb.2);have lI:(aF M.objs v.n).cls < u.J.length:=by
    rcases hO.2 with ⟨h2,_⟩|⟨_,h2,_⟩
    ·have:=hu.1.1;omega
    ·exact h2
   have hsend:=AY hu hF.1 ⟨21,a,b⟩ (v::r) rest _ Kh rfl ht lI Ac;have Nw:=vr hu.1 (s:=b) ((aF M.objs v.n).cls.toNat+1) (c:=(aF M.objs v.n).cls) (by omega) lI hsend.1;have wA:((aV u f.U).code.getD f.pc.toNat ep).kind=21/\0<=(aV u (find u (aF M.objs v.n).cls b)).cls/\(aV u (find u (aF M.objs v.n).cls b)).fG=((aV u f.U).code.getD f.pc.toNat ep).b:=by
    rw[hxg];exact⟨rfl,xG hu.1 lI hsend.1,Nw.2.1⟩
   have jv:=HP ye fL ⟨hsend.1,(jN u _ _).2⟩ hsend.2.1 Bb rfl SD ⟨(by show f.pc < ((aV u f.U).code.length:Int);omega),λ_=>.inr wA⟩ hp;exact jv
  rw[if_neg OT]at hp;by_cases Fu:kind=22
  ·rw[if_pos Fu]at hp;subst Fu;have hv:kE M.objs.length (aR.getD 0 cU):=um Bb;rcases List.eq_nil_or_concat fs with rfl|⟨gs,g,rfl⟩
   ·rw[AV]at hp;simp only[Except.ok.injEq]at hp;subst hp;exact⟨⟨h.steps,h.len,by simp,h.kG,hv,h.objs,h.low,λf hf=>(by cases hf),h.said,.inr (.inl ⟨rfl,rfl⟩)⟩,λgs g k hs e=>(by have:=congrArg List.length e;simp at this),rfl⟩
   ·rw[List.concat_eq_append,sJ]at hp;split at hp
    ·rename_i h4;simp only[Except.ok.injEq]at hp;subst hp;have hg:=qO g (by simp);have hcg:=Dl gs g f [] (by simp);rw[List.concat_eq_append]at Dl;refine⟨⟨h.steps,h.len,by simp at QK ⊢;omega,h.kG,h.out,h.objs,h.low,λk hk=>?_,h.said,.inl ⟨.inl fL,by simp,fK⟩⟩,Dl.pre.last rfl,rfl⟩;simp only[u_,V_]at hk;rcases hk with hk|rfl
     ·exact qO k (by simp[hk])
     ·obtain⟨h1,h2,h3,h5,h6,h7⟩:=hg;refine⟨h1,⟨by show 0<=g.pc+1;omega,by show g.pc+1<=((aV u g.U).code.length:Int);have:=hcg.1;omega⟩,h3,by simp;omega,h6,λw hw=>?_⟩;simp only[u_,V_]at hw;rcases hw with hw|rfl
      ·exact h7 w hw
      ·exact hv
    ·cases hp
  rw[if_neg Fu]at hp;have Lw:kind=23:=by omega
  subst Lw;simp only[if_true]at hp;split at hp
  ·cases hp
  ·rename_i o h1;obtain⟨a1,a2,rfl⟩:=kK h1;simp only[Except.ok.injEq]at hp;subst hp;simp[di]at m3;subst m3;obtain⟨v,rfl⟩:=gu Dg;have hr:v.ref=true:=by simpa [jD]using eP
   simp only[List.getD_cons_zero]at a2 ⊢;have hb:=(Bb v (by simp)).1 hr;have dW:=Em hu ye fL (n:=v.n) ⟨by omega,hb.2⟩ s;exact⟨dW.1,dW.2 SD,by unfold cK;split<;>rfl⟩
 ·rename_i hk;split at hp
  ·cases hp
  ·rename_i objs g said kq hm;simp only[Except.ok.injEq]at hp;subst hp;obtain⟨e1,e2,e3,e4,e5,e6⟩:=SC hG1 hT Bb lQ (λh24=>by
    obtain⟨kind,a,b⟩:=x;simp only at h24;subst h24;simp[di]at m3;subst m3;obtain⟨v,rfl⟩:=gu Dg;exact⟨v,rfl,by simpa [jD]using eP⟩) hm
   have hle:M.objs.length<=objs.length:=by omega
   refine⟨⟨h.steps,⟨e1.len,by show objs.length<=207;have:=h.len.2;omega⟩,by simpa using QK,?_,h.out.mono hle,e1.Aj,e1.low,λk hk=>?_,?_,.inl ⟨.inl fL,by simp,fK⟩⟩,Dl.last e3,rfl⟩
   ·rcases e5 with rfl|⟨w,_,rfl⟩
    ·exact h.kG
    ·simp;omega
   ·simp only[u_,V_]at hk;rcases hk with hk|rfl
    ·exact(qO k hk).mono hle
    ·obtain⟨h1,h2,h3,h4,h5,h6⟩:=e1.iN;refine⟨h1,?_,h3,h4,h5,h6⟩;simp only at e3;simp only[e3];split
     ·rename_i hg;have SE:=e6 hg;obtain⟨kind,a,b⟩:=x;simp only at SE;have hk4:kind=8\/kind=9\/kind=10\/kind=11:=by omega
      have ha:0<=a/\a < (aV u f.U).code.length:=by
       rcases hk4 with rfl|rfl|rfl|rfl;all_goals
        have:=(aI (p:=4) (q:=0) rfl).1 lQ;simp[bz]at this;exact this.1
      exact⟨ha.1,by show a<=_;omega⟩
     ·have:=hF.2.1;exact⟨by omega,by omega⟩
   ·intro n hn;rcases e5 with rfl|⟨w,hw,rfl⟩
    ·exact h.said n hn
    ·simp only[u_,V_]at hn;rcases hn with hn|rfl
     ·exact h.said n hn
     ·exact hw
theorem wP {objs:List Ob} {f:bQ} {v:Vl} {k:Int} (h:dH objs f v=.error k):k=0:=by
 unfold dH at h;split at h
 ·cases h
 ·simpa using h.symm
theorem I3 {objs:List Ob} {f:bQ} {said:List Int} {v:Vl} {k:Int} (h:fA objs f said v=.error k):k=0:=by
 unfold fA at h;split at h
 ·cases h
 ·rename_i e he;simp only[Except.error.injEq]at h;subst h;exact wP he
theorem uo {objs:List Ob} {n:Int} {so:Bool} {k:Int} (h:eE objs n so=.error k):k=0\/k=2:=by
 unfold eE at h;split at h
 ·exact .inl (by simpa using h.symm)
 ·split at h
  ·exact .inr (by simpa using h.symm)
  ·cases h
theorem Lx {objs:List Ob} {x:Vl} {a n k:Int} (h:qi objs x a n=.error k):k=0\/k=2\/k=3:=by
 unfold qi at h;split at h
 ·rename_i e he;simp only[Except.error.injEq]at h;subst h;rcases uo he with h|h
  ·exact .inl h
  ·exact .inr (.inl h)
 ·split at h
  ·cases h
  ·exact .inr (.inr (by simpa using h.symm))
def CF (k:Int):Prop:=k=0\/0 < k/\k<=7
theorem En {u:aO} {x:ez} {aR:List Vl} {objs:List Ob} {f:bQ} {k:Int} (h:bD u x aR objs f=.error k):CF k:=by
 unfold bD at h;simp only[sZ]at h;repeat' split at h
 all_goals first
  | (cases h;done)
  | (have:=wP h;unfold CF;omega)
  | (rename_i e he;simp only[Except.error.injEq]at h;subst h;first|(have:=uo he;unfold CF;omega)|(have:=Lx he;unfold CF;omega))
  | (simp only[Except.error.injEq]at h;unfold CF;omega)
theorem Ly {u:aO} {x:ez} {aR:List Vl} {objs:List Ob} {f:bQ} {said:List Int} {k:Int} (h:gG u x aR objs f said=.error k):CF k:=by
 have hp:∀ {f1:bQ} {v:Vl},fA objs f1 said v=.error k->CF k:=λh=>by have:=I3 h;unfold CF;omega
 unfold gG at h;simp only at h;by_cases k1:x.kind=1
 ·rw[if_pos k1]at h;exact hp h
 rw[if_neg k1]at h;by_cases k2:x.kind=2
 ·rw[if_pos k2]at h;exact hp h
 rw[if_neg k2]at h;by_cases k3:x.kind=3
 ·rw[if_pos k3]at h;exact hp h
 rw[if_neg k3]at h;by_cases k4:x.kind=4
 ·rw[if_pos k4]at h;cases h
 rw[if_neg k4]at h;by_cases k5:x.kind=5
 ·rw[if_pos k5]at h;cases h
 rw[if_neg k5]at h;by_cases k6:x.kind=6
 ·rw[if_pos k6]at h;split at h
  ·exact hp h
  ·rename_i e he;simp only[Except.error.injEq]at h;subst h;have:=wP he;unfold CF;omega
 rw[if_neg k6]at h;by_cases k7:x.kind=7
 ·rw[if_pos k7]at h;split at h
  ·exact hp h
  ·simp only[Except.error.injEq]at h;unfold CF;omega
 rw[if_neg k7]at h;by_cases k8:x.kind=8
 ·rw[if_pos k8]at h;cases h
 rw[if_neg k8]at h;by_cases k9:x.kind=9
 ·rw[if_pos k9]at h;cases h
 rw[if_neg k9]at h;by_cases A2:x.kind=10
 ·rw[if_pos A2]at h;cases h
 rw[if_neg A2]at h;by_cases JY:x.kind=11
 ·rw[if_pos JY]at h;cases h
 rw[if_neg JY]at h;by_cases A3:x.kind=24
 ·rw[if_pos A3]at h;cases h
 rw[if_neg A3]at h;split at h
 ·cases h
 ·rename_i e he;simp only[Except.error.injEq]at h;subst h;exact En he
theorem I4 {u:aO} {to:Int} {aR:List Vl} {M:bM} {k:Int} (h:jA u to aR M=.error k):CF k:=by
 unfold jA at h;split at h
 ·simp only[Except.error.injEq]at h;unfold CF;omega
 ·cases h
theorem Gn {u:aO} {x:ez} {aR:List Vl} {fs:List bQ} {M:bM} {k:Int} (h:gW u x aR fs M=.error k):CF k:=by
 unfold gW at h;simp only[rE]at h;repeat' split at h
 all_goals first
  | (cases h;done)
  | exact I4 h
  | (rename_i e he;simp only[Except.error.injEq]at h;subst h;have:=uo he;unfold CF;omega)
  | (simp only[Except.error.injEq]at h;unfold CF;omega)
theorem CG {u:aO} {fs:List bQ} {f:bQ} {M:bM} {k:Int} (h:kD u fs f M=.error k):CF k:=by
 unfold kD at h;simp only at h;split at h
 ·simp only[Except.error.injEq]at h;unfold CF;omega
 ·split at h
  ·simp only[Except.error.injEq]at h;unfold CF;omega
  ·split at h
   ·exact Gn h
   ·split at h
    ·rename_i e he;simp only[Except.error.injEq]at h;subst h;exact Ly he
    ·cases h
theorem qn {u:aO} {n:Int} {M:bM}:(cK u n M).steps=M.steps:=by unfold cK;split<;>rfl
theorem Eo {u:aO} {to:Int} {aR:List Vl} {M M':bM} (h:jA u to aR M=.ok M'):M'.steps=M.steps:=by
 unfold jA at h;split at h
 ·cases h
 ·simp only[Except.ok.injEq]at h;subst h;rfl
theorem Bd {u:aO} {fs:List bQ} {f:bQ} {M M':bM} (h:kD u fs f M=.ok M'):M'.steps=M.steps:=by
 unfold kD at h;simp only at h;split at h
 ·cases h
 ·split at h
  ·cases h
  ·split at h
   ·unfold gW at h;simp only[rE]at h;repeat' split at h
    all_goals first
     | (cases h;done)
     | (have:=Eo h;exact this)
     | (simp only[Except.ok.injEq]at h;subst h;first|rfl|exact qn)
   ·split at h
    ·cases h
    ·simp only[Except.ok.injEq]at h;subst h;rfl
theorem oh.SF {u:aO} (hu:cz u) {M:bM} (h:oh u M) (fL:M.fin=0):Lk u M where
 inv:=h.inv
 iN _:=by
  rcases h.fin with h1|h1|h1
  ·exact h1.2.1
  ·omega
  ·omega
 send f hf:=AY hu (h.iN f hf).1
 fault fs f k _ hd:=CG hd
 cls k h1 h2:=by rw[h.low k h1 h2];have:=hu.1.1;omega
 steps:=h.steps
 Ll fs f M' _ hd:=Bd hd
theorem OU {u:aO} {s:Bool} (hu:cz u) {M:bM} (h:oh u M) (Dl:nh u M.ag s):oh u (fB u M)/\nh u (fB u M).ag s:=by
 unfold fB;split
 ·exact⟨h,Dl⟩
 rename_i hg;split
 ·exact⟨h,Dl⟩
 rename_i f pI;have gz:M.ag=M.ag.dropLast++[f]:=by
  have cH:M.ag≠[]:=by intro hx;rw[hx]at pI;cases pI
  have:=List.dropLast_concat_getLast cH;rw[List.getLast?_eq_some_getLast cH]at pI;simp only[v_]at pI;rw[pI]at this;exact this.symm
 have fL:M.fin=0:=by omega
 have eB:=h.steps;have up:∀ {N:bM},oh u N->N.steps=M.steps->oh u {N with steps:=N.steps+1}:=λ{N} hN e =>
  ⟨by show 0<=N.steps+1/\N.steps+1<=200;omega,hN.len,hN.nf,hN.kG,hN.out,hN.objs,hN.low,hN.iN,hN.said,hN.fin⟩
 split
 ·rename_i M' hd;obtain⟨h1,h2,h3⟩:=Zj hu h fL gz (by omega) (by omega) Dl hd;exact⟨up h1 h3,h2⟩
 ·rename_i k hd;split
  ·refine⟨⟨by show 0<=M.steps+1/\M.steps+1<=200;omega,h.len,h.nf,h.kG,h.out,h.objs,h.low,h.iN,h.said,?_⟩,Dl⟩;rcases h.fin with h1|h1|h1
   ·exact .inl ⟨.inr rfl,h1.2⟩
   ·omega
   ·omega
  ·rename_i hk;have pI:=CG hd;have dW:=Em hu h fL (n:=k) (by have:=h.len.1;unfold CF at pI;omega) s;exact⟨up dW.1 qn,dW.2 Dl⟩
theorem Lz {cs:List eD} (ok:cI cs):dw cs 1=[1]:=by
 have h2:=ok.1;have h1:(1:Nat) < cs.length:=by omega
 have hc:=ok.2.2 1 h1;have hs:bG cs 1=cs[1].bU:=mW h1;rw[mI ok (by omega) (by omega),hs,(hc.2.2.1 rfl).1,fD (by omega)];have:jy cs 1=cs[1].fields:=by simp[jy,h1]
 rw[this,(hc.2.2.1 rfl).2];rfl
theorem SG {u:aO} (hu:cz u):oh u (qM u)/\nh u (qM u).ag:=by
 have hm:=hu.aV (k:=0) (by have:=hu.2.1.1;omega);have hh:=hm.1;have Ai:0<=(aV u 0).locals:=by have:=hh.2.2.2.2.2;omega
 refine⟨⟨by simp[qM],by simp[qM,iX],by simp[qM],by simp[qM],rF (by decide),λo ho=>?_,λk h1 h2=>?_,λf hf=>?_,λn hn=>(by cases hn),.inl ⟨.inl rfl,by simp[qM],rfl⟩⟩,λgs g k hs e=>?_⟩
 ·simp only[qM,iX,List.mem_map,List.mem_range]at ho;obtain⟨i,hi,rfl⟩:=ho;refine⟨λv hv=>?_,.inr ⟨by simp[qm],by have:=hu.1.1;simp only[qm];omega,by simp only[qm];rw[Lz hu.1];rfl⟩⟩;simp only[qm,V_]at hv;subst hv;exact rF (by omega)
 ·have hk:k=1\/k=2\/k=3\/k=4\/k=5\/k=6\/k=7:=by omega
  rcases hk with rfl|rfl|rfl|rfl|rfl|rfl|rfl<;>rfl
 ·simp only[qM,V_]at hf;subst hf;refine⟨⟨by simp,by have:=hu.2.1.1;simp only;omega⟩,⟨by simp,by simp⟩,by simp only[List.length_replicate];omega,by simp,λv hv=>?_,λv hv=>by cases hv⟩;rw[List.eq_of_mem_replicate hv];exact rF (by decide)
 ·have:=congrArg List.length e;simp[qM]at this;omega
structure Sx where
 objs:List Ob
 fs:List bQ
 f:bQ
 said:List Int
 steps:Int
 fin:Int
 out:Vl
 st:Bool
 ft:Int
def Sx.CH (x:Sx):bM:=⟨x.objs,x.fs++[x.f],x.said,x.steps,x.fin,x.out⟩
structure XM (h0 h:Heap) (bx:Nat) (us:List Value) (u:aO) (M:bM) (st:Bool) (ft:Int) (B:List Nat):Prop where
 ma:gV h0 h bx us [.bool st,.int .i64 ft] M B
 un:dG h0 us u
abbrev XS (h0 h:Heap) (bx:Nat) (us:List Value) (u:aO) (x:Sx) (B:List Nat):Prop:=XM h0 h bx us u x.CH x.st x.ft B
def Tp (h:Heap) (bx n bf:Nat):Prop:=∃ c,rd h bx 3=some (.slice (some ⟨bf,0,none⟩) (n+1) c)
def XR (h0 h:Heap) (bx:Nat) (us:List Value) (u:aO) (B:List Nat) (y:Sx) (h':Heap):Prop:=∃ B',XS h0 h' bx us u y B'/\Ev h h' (bx::B) (bx::B')/\rd h' bx 3=rd h bx 3
theorem XR.trans {h0 h h1 h2:Heap} {bx:Nat} {us:List Value} {u:aO} {B B1:List Nat} {y:Sx} (ev:Ev h h1 (bx::B) (bx::B1)) (e:rd h1 bx 3=rd h bx 3) (hr:XR h0 h1 bx us u B1 y h2):XR h0 h bx us u B y h2:=by
 obtain⟨B',a,b,c⟩:=hr;exact⟨B',a,ev.trans b,c.trans e⟩
theorem gV.OV {h0 h:Heap} {bm:Nat} {pre post:List Value} {M:bM} {B:List Nat} (hM:gV h0 h bm pre post M B) :
  ∃ mc t,h bm=some (.cells (pre++mc++post).toArray t (0,0))/\mc.length=7/\∀ HQ,gV h0 (h.set bm (.cells (pre++mc++HQ).toArray t (0,0))) bm pre HQ M B/\Ev h (h.set bm (.cells (pre++mc++HQ).toArray t (0,0))) (bm::B) (bm::B):=by
 have hM0:=hM;obtain⟨le,⟨mc,t,hb,own⟩,nd,fr⟩:=hM;have tR:bm ∉ B:=by
  intro hx;have h1:=W_.2 hx;have h3:=nd bm;simp only[X_,beq_self_eq_true,if_true]at h3;omega
 have hlen:mc.length=7:=by obtain⟨_,_,_,_,_,_,rfl,_⟩:=own;rfl
 refine⟨mc,t,hb,hlen,λHQ=>⟨⟨Heap.aP le (fr bm (by simp)),⟨mc,t,dh _ _ _,own.aJ λb fO o ho=>?_⟩,nd,fr⟩,⟨λb fO hn=>?_,λb hb=>.inl hb⟩⟩⟩
 ·have:b≠bm:=by rintro rfl;exact tR fO
  simp only[Heap.set,this,if_false];exact ho
 ·have:b≠bm:=λhx=>hn (by simp[hx]);simp only[Heap.set,this,if_false]
theorem XM.HR {h0 h:Heap} {bx:Nat} {us:List Value} {u:aO} {M:bM} {st:Bool} {ft:Int} {B:List Nat} (hX:XM h0 h bx us u M st ft B):us.length=2:=by
 obtain⟨p,cc,q,d,rfl,_⟩:=hX.un.form;rfl
theorem XM.me {h0 h:Heap} {bx:Nat} {us:List Value} {u:aO} {M:bM} {st:Bool} {ft:Int} {B:List Nat} (hX:XM h0 h bx us u M st ft B) :
  rd h bx 9=some (.bool st)/\rd h bx 10=some (.int .i64 ft)/\(∃ p c,rd h bx 2=some (.slice p M.objs.length c))/\(∃ p c,rd h bx 3=some (.slice p M.ag.length c))/\(∃ p c,rd h bx 4=some (.slice p M.said.length c)) /\
   ∃ p c q d,us=[.slice p u.J.length c,.slice q u.methods.length d]/\rd h bx 0=some (.slice p u.J.length c)/\rd h bx 1=some (.slice q u.methods.length d)/\fj h bx 0 2=some [.slice p u.J.length c,.slice q u.methods.length d] /\
    fP h (.slice p u.J.length c) u.J/\Row 8 eM h (.slice q u.methods.length d) u.methods:=by
 obtain⟨t,vo,vf,vs,hb,⟨p1,c1,rfl⟩,⟨p2,c2,rfl⟩,⟨p3,c3,rfl⟩,_⟩:=hX.ma.ints;have D6:=hX.un.le hX.ma.le;obtain⟨p,cc,q,d,rfl,hcs,fM,_⟩:=D6.form;exact⟨bJ hb rfl,bJ hb rfl,⟨p1,c1,bJ hb rfl⟩,⟨p2,c2,bJ hb rfl⟩,⟨p3,c3,bJ hb rfl⟩,p,cc,q,d,rfl,bJ hb rfl,bJ hb rfl,bO hb 2 0 (by simp),hcs,fM⟩
theorem XM.HS {h0 h:Heap} {bx:Nat} {us:List Value} {u:aO} {M:bM} {st LA:Bool} {ft NP:Int} {B:List Nat} {K:Heap->Prop} {i:Nat} {v:Value} (hX:XM h0 h bx us u M st ft B)
  (hi:(i=9/\v=.bool LA/\NP=ft)\/(i=10/\v=.int .i64 NP/\LA=st))
  (hk:∀ h',XM h0 h' bx us u M LA NP B->Ev h h' (bx::B) (bx::B)->rd h' bx 3=rd h bx 3->(∀ b,b≠bx->h' b=h b)->K h'):St h bx i [v] K:=by
 have Fv:=hX.HR;obtain⟨mc,t,hb,hlen,fe⟩:=hX.ma.OV;obtain⟨k1,k2⟩:=fe [.bool LA,.int .i64 NP];have hw:eS (us++mc++[.bool st,.int .i64 ft]) i [v]=us++mc++[.bool LA,.int .i64 NP]:=by
  have h1:i=(us++mc).length+(i-9):=by rcases hi with ⟨rfl,_⟩|⟨rfl,_⟩<;>simp[Fv,hlen]
  have h2:=jZ (pre:=us++mc) (x:=[.bool st,.int .i64 ft]) (post:=[]) (n:=i) (i:=i-9) (v:=v) h1 (by rcases hi with ⟨rfl,_⟩|⟨rfl,_⟩<;>simp);simp only[List.append_nil]at h2;rw[h2];rcases hi with ⟨rfl,rfl,rfl⟩|⟨rfl,rfl,rfl⟩<;>rfl
 refine Go.Vc.st hb (by simp[Fv,hlen];omega) ?_;rw[hw];refine hk _ ⟨k1,hX.un⟩ k2 ?_ (λb hb=>by simp only[Heap.set,hb,if_false]);have hr:∀ tl:List Value,(us++mc++tl)[3]? = mc[1]?:=by
  intro tl;rw[List.getElem?_append_left (by simp[Fv,hlen]),List.getElem?_append_right (by omega),Fv]
 rw[mU];unfold rd;rw[hb];show(us++mc++[Value.bool LA,Value.int .i64 NP]).toArray[3]? = (us++mc++[Value.bool st,Value.int .i64 ft]).toArray[3]?;simp only[List.getElem?_toArray,hr]
theorem XM.post {h0 h:Heap} {bx:Nat} {us:List Value} {u:aO} {M:bM} {st LA:Bool} {ft NP:Int} {B:List Nat} {K:Heap->Prop} {i:Nat} {v:Value} (hX:XM h0 h bx us u M st ft B)
  (hi:(i=9/\v=.bool LA/\NP=ft)\/(i=10/\v=.int .i64 NP/\LA=st))
  (hk:∀ h',XM h0 h' bx us u M LA NP B->Ev h h' (bx::B) (bx::B)->rd h' bx 3=rd h bx 3->K h'):St h bx i [v] K:=hX.HS hi (λh' a b c _=>hk h' a b c)
theorem XM.stuck {h0 h:Heap} {bx:Nat} {us:List Value} {u:aO} {M:bM} {st:Bool} {ft:Int} {B:List Nat} {K:Heap->Prop} (hX:XM h0 h bx us u M st ft B)
  (hk:∀ h',XM h0 h' bx us u M true ft B->Ev h h' (bx::B) (bx::B)->rd h' bx 3=rd h bx 3->K h'):St h bx 9 [.bool true] K:=hX.post (.inl ⟨rfl,rfl,rfl⟩) hk
theorem XM.fault {h0 h:Heap} {bx:Nat} {us:List Value} {u:aO} {M:bM} {st:Bool} {ft k:Int} {B:List Nat} {K:Heap->Prop} (hX:XM h0 h bx us u M st ft B)
  (hk:∀ h',XM h0 h' bx us u M st k B->Ev h h' (bx::B) (bx::B)->rd h' bx 3=rd h bx 3->K h'):St h bx 10 [.int .i64 k] K:=hX.post (.inr ⟨rfl,rfl,rfl⟩) hk
theorem XS.tp {h0 h:Heap} {bx:Nat} {us:List Value} {u:aO} {x:Sx} {B:List Nat} (hX:XS h0 h bx us u x B):∃ bf,Tp h bx x.fs.length bf:=by
 obtain⟨vo,vs,bf,c,tm,t,q,r,v1,v2,Bo,B1,B2,hb,_⟩:=hX.ma.top (fs:=x.fs) (f:=x.f) rfl;exact⟨bf,c,bE hb (i:=1) (by rw[hX.HR]) rfl⟩
theorem XS.lens {h0 h:Heap} {bx:Nat} {us:List Value} {u:aO} {x:Sx} {B:List Nat} {bf:Nat} (hX:XS h0 h bx us u x B) (ht:Tp h bx x.fs.length bf) :
  ∃ t q r v1 v2 B1 B2,h bf=some (.cells (q++[.int .i64 x.f.U,.int .i64 x.f.pc,v1,v2]++r).toArray t (0,0))/\q.length=x.fs.length*4/\cj h v1 x.f.locals B1/\cj h v2 x.f.stack B2/\Nd (B1++B2)/\(∀ b∈bf::(B1++B2),h0 b=none/\b∈B) /\
   (∀ b,b∈B1++B2->b≠bf/\b≠bx)/\bf≠bx /\
   ∀ h' f' AQ uB jz ie,h' bf=some (.cells (q++[.int .i64 f'.U,.int .i64 f'.pc,AQ,uB]++r).toArray t (0,0))->(∀ b,b ∉ bf::(B1++B2)->h b≠none->h' b=h b)->cj h' AQ f'.locals jz->cj h' uB f'.stack ie ->
    (∀ b∈jz++ie,b∈B1++B2\/h b=none)->Nd (jz++ie)->XR h0 h bx us u B {x with f:=f' } h':=by
 obtain⟨tm,vo,vs,K2,c,t,q,r,v1,v2,B1,B2,hb,kz,hq,o1,o2,nd,fW,cH,AR,fe⟩:=hX.ma.lens (fs:=x.fs) (f:=x.f) rfl;obtain⟨c0,htp⟩:=ht;have e1:rd h bx 3=some (.slice (some ⟨K2,0,none⟩) (x.fs.length+1) c):=bE hb (i:=1) (by rw[hX.HR]) rfl;rw[htp]at e1;simp only[v_,Z_,Addr.mk.injEq,and_true,true_and]at e1;obtain⟨rfl,rfl⟩:=e1;refine⟨t,q,r,v1,v2,B1,B2,kz,hq,o1,o2,nd,fW,cH,AR,?_⟩;intro h' f' AQ uB jz ie k1 k2 k3 k4 k5 k6;obtain⟨B',K3,ev⟩:=fe h' f' AQ uB jz ie k1 k2 k3 k4 k5 k6;refine⟨B',⟨K3,hX.un⟩,ev,?_⟩;have Oj:h' bx=h bx:=k2 bx (by simp only[List.mem_cons,not_or];exact⟨λhx=>AR hx.symm,λhx=>(cH _ hx).2 rfl⟩) (by rw[hb];simp);unfold rd;rw[Oj]
theorem XS.cP {h0 h:Heap} {bx:Nat} {us:List Value} {u:aO} {x:Sx} {B:List Nat} {bf:Nat} (hX:XS h0 h bx us u x B) (ht:Tp h bx x.fs.length bf) :
  ∃ t q r v1 p2 c2 B2,h bf=some (.cells (q++[.int .i64 x.f.U,.int .i64 x.f.pc,v1,.slice p2 (x.f.stack.map bR).length c2]++r).toArray t (0,0))/\q.length=x.fs.length*4/\cj h (.slice p2 (x.f.stack.map bR).length c2) x.f.stack B2/\(∀ b∈B2,h0 b=none) /\
   rd h bf (x.fs.length*4+3)=some (.slice p2 (x.f.stack.map bR).length c2) /\
   ∀ h1 uB ie S' Cq,(∀ b,b ∉ B2->h b≠none->h1 b=h b)->cj h1 uB S' ie->(∀ b∈ie,b∈B2\/h b=none) ->
    h1 bf=h bf/\XR h0 h bx us u B {x with f:={x.f with pc:=Cq,stack:=S' } } (h1.set bf (.cells (q++[.int .i64 x.f.U,.int .i64 Cq,v1,uB]++r).toArray t (0,0))):=by
 obtain⟨t,q,r,v1,v2,B1,B2,kz,hq,o1,o2,nd,gz,cH,AR,fe⟩:=hX.lens ht;obtain⟨p2,c2,rfl,gF⟩:=o2.form;refine⟨t,q,r,v1,p2,c2,B2,kz,hq,o2,λb hb=>(gz b (by simp;grind)).1,bE kz (i:=3) (by rw[hq]) rfl,?_⟩;intro h1 uB ie S' Cq k1 k2 k3;have n1:bf ∉ B2:=λhx=>(cH bf (by simp[hx])).1 rfl;have hd:∀ b,b∈B1->b ∉ B2:=by
  intro b h1 h2;have:=nd b;have:=W_.2 h1;have:=W_.2 h2;simp only[Y_]at *;omega
 have nb:∀ b∈ie,b≠bf:=by
  intro b hb;rcases k3 b hb with hx|hx
  ·rintro rfl;exact n1 hx
  ·rintro rfl;rw[kz]at hx;cases hx
 refine⟨k1 bf n1 (by rw[kz];simp),?_⟩;refine fe _ {x.f with pc:=Cq,stack:=S' } v1 uB B1 ie ?_ ?_ ?_ ?_ ?_ ?_
 ·simp[Heap.set]
 ·intro b hb hn;have gL:b≠bf:=λhx=>hb (by simp[hx]);simp only[Heap.set,gL,if_false];exact k1 b (λhx=>hb (by simp[hx])) hn
 ·refine o1.aJ λb hb o ho=>?_;have gL:=(cH b (by simp[hb])).1;simp only[Heap.set,gL,if_false];rw[k1 b (hd b hb) (by rw[ho];simp)];exact ho
 ·refine k2.aJ λb hb o ho=>?_;simp only[Heap.set,nb b hb,if_false];exact ho
 ·intro b hb;rcases u_.1 hb with hx|hx
  ·exact .inl (by simp[hx])
  ·rcases k3 b hx with hy|hy
   ·exact .inl (by simp[hy])
   ·exact .inr hy
 ·refine Nd.swap nd k2.nd λb hb=>?_;rcases k3 b hb with hx|hx
  ·exact .inl hx
  ·refine .inr λhy=>?_;obtain⟨o,ho⟩:=o1.in b hy;rw[hx]at ho;cases ho
theorem vz {h0 h:Heap} {bx:Nat} {us:List Value} {u:aO} {x:Sx} {B:List Nat} {bf:Nat} (hX:XS h0 h bx us u x B) (ht:Tp h bx x.fs.length bf) (hn:x.fs.length<=1000) :
  Pure prog 131 [.pointer (some ⟨bx,0,none⟩)] h (.pointer (some ⟨bf,x.fs.length*4,none⟩)):=by
 obtain⟨c,ht⟩:=ht;refine iC au func131 V9 Wa rfl ?_;conv=>whnf
 repeat' ((first|refine ld ht ?_|refine aq ?_|refine ah ?_|refine ptr ?_)<;>conv=>whnf)
 refine⟨?_,rfl⟩;have:0+(((x.fs.length+1:Nat):Int)-1).toNat*4=x.fs.length*4:=by omega
 rw[this]
def dM (x:Sx) (v:Vl):Sx:=if 4<=x.f.stack.length then {x with st:=true}else {x with f:={x.f with stack:=x.f.stack++[v]} }
def aZ (x:Sx):Vl × Sx:=match x.f.stack.getLast? with
 | none=>(cU,{x with st:=true})
 | some v=>(v,{x with f:={x.f with stack:=x.f.stack.dropLast} })
def aB (x:Sx):Int × Sx:=if (aZ x).1.ref=true then (0,{ (aZ x).2 with st:=true})else ((aZ x).1.n,(aZ x).2)
def aD (x:Sx):Int × Sx:=if (aZ x).1.ref=true then ((aZ x).1.n,(aZ x).2)else (0,{ (aZ x).2 with st:=true})
def cQ (x:Sx) (k:Int):Sx:=if x.ft=0 then {x with ft:=k}else x
def Sx.bad (x:Sx):Prop:=x.st=true\/0 < x.ft
instance (x:Sx):Decidable x.bad:=inferInstanceAs (Decidable (_\/_))
def fU (u:aO) (c k:Int):Bool:=(decide (k < 0) && !decide (c=k))||(decide (0<=k) && !(decide (0<=c)&&up u.J c k))
def bB (u:aO) (x:Sx) (n k:Int):Sx:=if x.bad then x else if n=0 then cQ x 2 else if fU u (aF x.objs n).cls k=true then {x with st:=true}else x
def jQ (x:Sx) (o:Ob):Sx:=if x.bad then x else dM {x with objs:=x.objs++[o]} ⟨true,x.objs.length+1⟩
def Gp (u:aO) (x:Sx) (k:Int):Sx:=jQ x ⟨k,(dw u.J k).map nothing⟩
def ni (k n:Int):Ob:=⟨-1-k,List.replicate (min n 6).toNat ⟨decide (k=1),0⟩⟩
def ox (x:Sx) (k:Int):Sx:=jQ (if 0<=(aB x).1/\(aB x).1<=6 then (aB x).2 else cQ (aB x).2 4) (ni k (aB x).1)
def LB (x:Sx) (op:Int):Sx :=
 let b:=aB x
 let a:=aB b.2
 if (iJ op a.1 b.1).2=true then dM a.2 ⟨false,(iJ op a.1 b.1).1⟩else cQ a.2 1
def tJ (x:Sx):Sx :=
 let r:=aD x
 if 0 < r.1/\r.2.st=false/\0<=(aF r.2.objs r.1).cls then {r.2 with st:=true}else if r.1=0 then cQ r.2 2 else dM r.2 ⟨false,(aF r.2.objs r.1).aW.length⟩
def I5 (x:Sx) (n i:Int) (v:Vl):Sx:={x with objs:=ij x.objs n (putAt (aF x.objs n).aW i v)}
def vB (u:aO) (x:Sx) (k:Int) (set:Bool):Sx :=
 let p:=if set=true then aZ x else (cU,x)
 let w:=aB p.2
 let r:=aD w.2
 let y:=bB u r.2 r.1 (-1-k)
 if y.bad then y else if ¬(0<=w.1/\w.1 < (aF y.objs r.1).aW.length)then cQ y 3 else if set=true then I5 y r.1 w.1 p.1 else dM y ((aF y.objs r.1).aW.getD w.1.toNat cU)
def qo (u:aO) (x:Sx) (k i:Int) (set:Bool):Sx :=
 let p:=if set=true then aZ x else (cU,x)
 let r:=aD p.2
 let y:=bB u r.2 r.1 k
 if y.bad then y else if set=true then I5 y r.1 i p.1 else dM y ((aF y.objs r.1).aW.getD i.toNat cU)
def tK (u:aO) (x:Sx) (k:Int):Sx :=
 let r:=aD x
 if r.2.st=true then r.2 else if 0 < r.1/\iy u.J (typeOf (aF r.2.objs r.1).cls) (8+k)=false then cQ r.2 5 else dM r.2 ⟨true,r.1⟩
theorem oU {x:Sx} {v:Vl} (h:4<=x.f.stack.length):dM x v = {x with st:=true}:=if_pos h
theorem rH {x:Sx} {v:Vl} (h:x.f.stack.length < 4):dM x v = {x with f:={x.f with stack:=x.f.stack++[v]} }:=if_neg (by omega)
theorem vC {x:Sx} (h:x.f.stack=[]):aZ x=(cU,{x with st:=true}):=by unfold aZ;rw[h];rfl
theorem gA {x:Sx} {l:List Vl} {v:Vl} (h:x.f.stack=l++[v]):aZ x=(v,{x with f:={x.f with stack:=l} }):=by unfold aZ;rw[h];simp
theorem mC (x:Sx):(aZ x).2.fs=x.fs/\(aZ x).2.objs=x.objs/\(aZ x).2.f.stack.length<=x.f.stack.length/\(aZ x).2.f.locals=x.f.locals:=by
 rcases List.eq_nil_or_concat x.f.stack with h|⟨l,v,h⟩
 ·rw[vC h];simp
 ·rw[List.concat_eq_append]at h;rw[gA h,h];simp
theorem j9 (x:Sx):(aD x).2.fs=x.fs/\(aD x).2.objs=x.objs/\(aD x).2.f.stack.length<=x.f.stack.length/\(aD x).2.f.locals=x.f.locals:=by
 unfold aD;split<;>exact mC x
def QW (v:Vl):Value:=.agg #[.bool v.ref,.int .i64 v.n]
end Go.Proofs
