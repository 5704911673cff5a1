/- Lemmas. -/
import Derived.Test.YtcenghjfipkgmaaGreatMb3
set_option linter.unusedSimpArgs false
set_option linter.unusedVariables false
namespace Go.Proofs
open Go.Vc Go.Proofs.Tryz
set_option maxRecDepth 100000
set_option maxHeartbeats 4000000
def j5 (k:Int):List PanicEntry:=[{v:=.iface 95 (.agg #[.int .i64 k]),recovered:=false}]
def stp (bf off bm:Nat) (ms us:List Value):List Value:=.pointer (some ⟨bf,off,none⟩)::(ms++us++[.pointer (some ⟨bm,0,none⟩)])
def Pn (h0:Heap) (bm:Nat) (h:Heap):Prop:=h0.le h/\∃(cs:List Value) (t:TypeId),h bm=some (.cells cs.toArray t (0,0))/\cs.length=7
theorem gV.K1 {h0 h h':Heap} {bm:Nat} {M:bM} {B:List Nat} (hM:gV h0 h bm [] [] M B) (hl:h.le h'):Pn h0 bm h':=by
 obtain⟨le,⟨mc,t,hb,vo,vf,vs,B1,B2,B3,rfl,_⟩,_,_⟩:=hM;exact⟨y_ le hl,_,t,hl _ _ hb,rfl⟩
theorem gV.pn {h0 h:Heap} {bm:Nat} {M:bM} {B:List Nat} (hM:gV h0 h bm [] [] M B):Pn h0 bm h:=hM.K1 (z_ h)
structure lB (h0 h:Heap) (bs bm bf off:Nat) (u:aO) (m:cL) (fs:List bQ) (f:bQ) (M:bM) (B:List Nat):Prop where
 ma:gV h0 h bm [] [] M B
 ag:M.ag=fs++[f]
 top:off=fs.length*4/\∃ c,rd h bm 1=some (.slice (some ⟨bf,0,none⟩) (fs.length+1) c)
 st:∃ ms us t,h bs=some (.cells (stp bf off bm ms us).toArray t (0,0))/\dG h0 us u/\eM h0 ms m
 out:bs ∉ bm::B
theorem lB.lens {h0 h:Heap} {bs bm bf off:Nat} {u:aO} {m:cL} {fs:List bQ} {f:bQ} {M:bM} {B:List Nat} (hS:lB h0 h bs bm bf off u m fs f M B) :
  ∃ t q r v1 v2 B1 B2,h bf=some (.cells (q++[.int .i64 f.U,.int .i64 f.pc,v1,v2]++r).toArray t (0,0))/\q.length=off/\cj h v1 f.locals B1/\cj h v2 f.stack B2/\Nd (B1++B2)/\(∀ b∈bf::(B1++B2),h0 b=none) /\
   (∀ b,b∈B1++B2->b≠bf/\b≠bm/\b≠bs)/\bf≠bm/\bf≠bs /\
   ∀ h' f' AQ uB jz ie,h' bf=some (.cells (q++[.int .i64 f'.U,.int .i64 f'.pc,AQ,uB]++r).toArray t (0,0))->(∀ b,b ∉ bf::(B1++B2)->h b≠none->h' b=h b)->cj h' AQ f'.locals jz->cj h' uB f'.stack ie ->
    (∀ b∈jz++ie,b∈B1++B2\/h b=none)->Nd (jz++ie)->∃ B',lB h0 h' bs bm bf off u m fs f' {M with ag:=fs++[f']} B'/\Ev h h' (bm::B) (bm::B'):=by
 obtain⟨hM,hf,⟨OE,c0,jL⟩,⟨ms,us,ts,eB,hu,hm⟩,fK⟩:=hS;obtain⟨vo,vs,K2,c,tm,t,q,r,v1,v2,Bo,B1,B2,hb,kz,hq,o1,o2,nd,fW,ef,fe⟩:=hM.top hf;have e1:rd h bm 1=some (.slice (some ⟨K2,0,none⟩) (fs.length+1) c):=bE hb (i:=1) (by simp) rfl;rw[jL]at e1;simp only[v_,Z_,Addr.mk.injEq,and_true,true_and]at e1;obtain⟨rfl,rfl⟩:=e1;have js:∀ a,(bm::bf::(Bo++B1++B2)).count a<=1:=nd;have AR:∀ b,b∈B1++B2->b≠bf/\b≠bm/\b≠bs/\b ∉ Bo:=by
  intro b bA;have hp:=W_.2 bA;have hc:=js b;simp only[Y_,X_]at hp hc;refine⟨?_,?_,?_,?_⟩
  ·rintro rfl;simp at hc;omega
  ·rintro rfl;simp at hc;omega
  ·rintro rfl;exact fK ((ef _).2 (by simp at bA ⊢;grind))
  ·intro hx;have:=W_.2 hx;omega
 have R3:bf≠bm:=by
  rintro rfl;have hc:=js bf;simp[X_]at hc
 have ne3:bf≠bs:=by
  rintro rfl;exact fK ((ef _).2 (by simp))
 have ne4:bm≠bs:=by
  rintro rfl;exact fK (by simp)
 refine⟨t,q,r,v1,v2,B1,B2,kz,by rw[hq,OE],o1,o2,?_,?_,λb bA=>⟨(AR b bA).1,(AR b bA).2.1,(AR b bA).2.2.1⟩,R3,ne3,?_⟩
 ·exact nd.less λa=>by simp only[Y_,X_];omega
 ·intro b bA;exact hM.fr b ((ef b).2 (by simp at bA ⊢;grind))
 intro h' f' AQ uB jz ie k1 k2 k3 k4 k5 k6;have iR:h' bm=h bm:=k2 bm (by simp only[List.mem_cons,not_or];exact⟨λhx=>R3 hx.symm,λhx=>(AR _ hx).2.1 rfl⟩) (by rw[hb];simp);have nH:∀ b∈Bo,b ∉ bf::(B1++B2):=by
  intro b bA hx;rcases List.mem_cons.1 hx with rfl|hx
  ·have hc:=js b;have:=W_.2 bA;simp only[Y_,X_]at hc;simp at hc;omega
  ·exact(AR b hx).2.2.2 bA
 have u0:cR h h' Bo:=λb bA o ho=>by rw[k2 b (nH b bA) (by rw[ho];simp)];exact ho
 have hnd:Nd (bm::bf::(Bo++jz++ie)):=by
  have:=Nd.swap (A:=bm::bf::Bo) (X:=B1++B2) (X':=jz++ie) (nd.perm λa=>by simp only[Y_,X_];omega) k6 (λb bA=>?_)
  ·exact this.perm λa=>by simp only[Y_,X_];omega
  ·rcases k5 b bA with hx|hx
   ·exact .inl hx
   ·refine .inr λhy=>?_;obtain⟨o,ho⟩:=fW b (by simp at hy ⊢;grind);rw[hx]at ho;cases ho
 have Fm:Ev h h' (bm::B) (bm::bf::(Bo++jz++ie)):=by
  refine⟨λb bA hn=>?_,λb bA=>?_⟩
  ·refine k2 b (λhx=>hn ((ef b).2 (by simp at hx ⊢;grind))) bA
  ·have:b∈jz++ie\/b∈bm::bf::Bo:=by simp at bA ⊢;grind
   rcases this with hx|hx
   ·rcases k5 b hx with hy|hy
    ·exact .inl ((ef b).2 (by simp at hy ⊢;grind))
    ·exact .inr hy
   ·exact .inl ((ef b).2 (by simp at hx ⊢;grind))
 obtain⟨B',K3,YP⟩:=fe h' f' AQ uB jz ie iR k1 k3 k4 u0 hnd Fm;refine⟨B',⟨K3,rfl,⟨OE,c0,?_⟩,⟨ms,us,ts,?_,hu,hm⟩,?_⟩,YP⟩
 ·rw[<-jL];unfold rd;rw[iR]
 ·rw[k2 bs ?_ (by rw[eB];simp)];exact eB;intro hx;rcases List.mem_cons.1 hx with hx|hx
  ·exact ne3 hx.symm
  ·exact(AR _ hx).2.2.1 rfl
 ·intro hx;rcases YP.new bs hx with hy|hy
  ·exact fK hy
  ·rw[eB]at hy;cases hy
theorem eL {α β:Type} (g:α->β) (l:List α):((l.map g).length:Int)=l.length:=by simp
theorem lB.cP {h0 h:Heap} {bs bm bf off:Nat} {u:aO} {m:cL} {fs:List bQ} {f:bQ} {M:bM} {B:List Nat} (hS:lB h0 h bs bm bf off u m fs f M B) :
  ∃ t q r v1 p2 c2 B2,h bf=some (.cells (q++[.int .i64 f.U,.int .i64 f.pc,v1,.slice p2 (f.stack.map bR).length c2]++r).toArray t (0,0))/\q.length=off/\cj h (.slice p2 (f.stack.map bR).length c2) f.stack B2/\(∀ b∈B2,h0 b=none) /\
   rd h bs 0=some (.pointer (some ⟨bf,off,none⟩))/\rd h bf (off+3)=some (.slice p2 (f.stack.map bR).length c2) /\
   ∀ h1 uB ie S' Cq,(∀ b,b ∉ B2->h b≠none->h1 b=h b)->cj h1 uB S' ie->(∀ b∈ie,b∈B2\/h b=none) ->
    h1 bf=h bf/\h1 bs=h bs/\h1 bm=h bm/\∃ B',lB h0 (h1.set bf (.cells (q++[.int .i64 f.U,.int .i64 Cq,v1,uB]++r).toArray t (0,0))) bs bm bf off u m fs {f with pc:=Cq,stack:=S' } {M with ag:=fs++[{f with pc:=Cq,stack:=S' }]} B' /\
     Ev h (h1.set bf (.cells (q++[.int .i64 f.U,.int .i64 Cq,v1,uB]++r).toArray t (0,0))) (bm::B) (bm::B'):=by
 obtain⟨t,q,r,v1,v2,B1,B2,kz,hq,o1,o2,nd,gz,cH,AR,R3,fe⟩:=hS.lens;obtain⟨hM,hf,jL,⟨ms,us,ts,eB,hu,hm⟩,fK⟩:=hS;obtain⟨p2,c2,rfl,gF⟩:=o2.form;obtain⟨mc,tm,iR,_⟩:=hM.cell;refine⟨t,q,r,v1,p2,c2,B2,kz,hq,o2,λb hb=>gz b (by simp;grind),bJ eB rfl,bE kz (i:=3) (by rw[hq]) rfl,?_⟩;intro h1 uB ie S' Cq k1 k2 k3;have n1:bf ∉ B2:=λhx=>(cH bf (by simp[hx])).1 rfl;have n2:bs ∉ B2:=λhx=>(cH bs (by simp[hx])).2.2 rfl;have n3:bm ∉ B2:=λhx=>(cH bm (by simp[hx])).2.1 rfl;have hd:∀ b,b∈B1->b ∉ B2:=by
  intro b h1 h2;have:=nd b;have:=W_.2 h1;have:=W_.2 h2;simp only[Y_]at *;omega
 have nb:∀ b∈ie,b≠bf:=by
  intro b hb;rcases k3 b hb with hx|hx
  ·rintro rfl;exact n1 hx
  ·rintro rfl;rw[kz]at hx;cases hx
 refine⟨k1 bf n1 (by rw[kz];simp),k1 bs n2 (by rw[eB];simp),k1 bm n3 (by rw[iR];simp),?_⟩;refine fe _ {f with pc:=Cq,stack:=S' } v1 uB B1 ie ?_ ?_ ?_ ?_ ?_ ?_
 ·simp[Heap.set]
 ·intro b hb hn;have gL:b≠bf:=λhx=>hb (by simp[hx]);simp only[Heap.set,gL,if_false];exact k1 b (λhx=>hb (by simp[hx])) hn
 ·refine o1.aJ λb hb o ho=>?_;have gL:=(cH b (by simp[hb])).1;simp only[Heap.set,gL,if_false];rw[k1 b (hd b hb) (by rw[ho];simp)];exact ho
 ·refine k2.aJ λb hb o ho=>?_;simp only[Heap.set,nb b hb,if_false];exact ho
 ·intro b hb;rcases u_.1 hb with hx|hx
  ·exact .inl (by simp[hx])
  ·rcases k3 b hx with hy|hy
   ·exact .inl (by simp[hy])
   ·exact .inr hy
 ·refine Nd.swap nd k2.nd λb hb=>?_;rcases k3 b hb with hx|hx
  ·exact .inl hx
  ·refine .inr λhy=>?_;obtain⟨o,ho⟩:=o1.in b hy;rw[hx]at ho;cases ho
theorem F6 {h:Heap} {b:Nat} {pre x post:List Value} {t:TypeId} {fz:Nat × Nat} {i n:Nat} {v:Value} (hn:n=pre.length+i) (hi:i < x.length) :
  h.set b (.cells (eS (pre++x++post) n [v]).toArray t fz)=h.set b (.cells (pre++x.set i v++post).toArray t fz):=by rw[jZ hn hi]
theorem qg (h0 h:Heap) (bs bm bf off:Nat) (u:aO) (m:cL) (fs:List bQ) (f:bQ) (M:bM) (B:List Nat) (x:Vl) (hS:lB h0 h bs bm bf off u m fs f M B) :
  cZ prog 159 [.pointer (some ⟨bs,0,none⟩),.agg #[.bool x.ref,.int .i64 x.n]] h λo h'=>match o with
   | .ret _=>f.stack.length < 4/\∃ B',lB h0 h' bs bm bf off u m fs {f with stack:=f.stack++[x]} {M with ag:=fs++[{f with stack:=f.stack++[x]}]} B'/\Ev h h' (bm::B) (bm::B')
   | .lY c=>4<=f.stack.length/\c=j5 0/\Pn h0 bm h':=by
 obtain⟨t,q,r,v1,p2,c2,B2,kz,hq,o2,gz,r1,r2,fe⟩:=hS.cP;have hle:=hS.ma.le;have hlen:=eL bR f.stack;refine outs au func159 W1 W2 rfl ?_;conv=>whnf
 refine ld r1 ?_;conv=>whnf
 refine ld r2 ?_;conv=>whnf
 apply ax<;>intro g;all_goals conv=>whnf
 ·exact⟨by omega,rfl,hS.ma.pn⟩
 repeat' ((first|exact trivial|refine ld r1 ?_|refine ld r2 ?_|apply T_)<;>conv=>whnf)
 all_goals
  refine dA (h0:=h0) (ys:=[bR x]) o2 gz hle rfl rfl (by simp[bR]) rfl rfl (by simp;omega) (by simp;omega) ?_;intro v' h1 ie g1 g2 g3 g4 g5;have ff:=g2.form;obtain⟨p',c',rfl,pW⟩:=ff;have As:cj h1 (.slice p' (f.stack.map bR++[bR x]).length c') (f.stack++[x]) ie:=by unfold cj;rw[List.map_append];exact g2
  obtain⟨e1,e2,e3,B',s1,s2⟩:=fe h1 _ ie (f.stack++[x]) f.pc g4 As g5;have Qw:rd h1 bs 0=some (.pointer (some ⟨bf,off,none⟩)):=by unfold rd at r1 ⊢;rw[e2];exact r1
  rw[kz]at e1;conv=>whnf
  repeat' ((first|refine ld Qw ?_|refine st e1 (by simp;omega) ?_)<;>conv=>whnf)
  refine⟨by omega,?_⟩;rw[F6 (i:=3) (by rw[hq]) (by simp)];exact⟨B',s1,s2⟩
def mZ (sz:Nat) (h:Heap) (v:Value) (xs:List (List Value)):Prop:=xs.length<=1000000/\(∀ x∈xs,x.length=sz)/\∃ p c,v=.slice p xs.length c/\xs.length<=c/\(xs=[]\/∃ b off,p=some ⟨b,off,none⟩/\fj h b off (xs.length*sz)=some xs.flatten)
theorem mZ.le {sz:Nat} {h h':Heap} {v:Value} {xs:List (List Value)} (hl:h.le h') (hr:mZ sz h v xs):mZ sz h' v xs:=by
 obtain⟨h1,h2,p,c,rfl,h3,h4⟩:=hr;refine⟨h1,h2,p,c,rfl,h3,h4.imp id ?_⟩;rintro⟨b,off,rfl,h5⟩;exact⟨b,off,rfl,bK hl h5⟩
theorem cr.read {sz:Nat} {h:Heap} {v:Value} {xs:List (List Value)} {B:List Nat} (ho:cr sz h v xs B) (hl:xs.length<=1000000):mZ sz h v xs:=by
 obtain⟨hx,⟨rfl,rfl,_⟩|⟨b,c,rest,t,rfl,hc,hb,hlen,_⟩⟩:=ho
 ·exact⟨hl,hx,none,0,rfl,by simp,.inl rfl⟩
 ·refine⟨hl,hx,_,c,rfl,hc,.inr ⟨b,0,rfl,?_⟩⟩;have HE:=bW hx;rw[bO hb _ _ (by simp only[U_];omega)];simp[<-HE]
theorem mZ.OF {sz:Nat} {h:Heap} {p:Option Addr} {n c:Nat} {xs:List (List Value)} {K:List Value->Prop} (hr:mZ sz h (.slice p n c) xs) (hk:K xs.flatten):Ua h p (n*sz) K:=by
 obtain⟨_,_,p',c',he,_,h3⟩:=hr;simp only[Z_]at he;obtain⟨rfl,rfl,rfl⟩:=he;rw[uH];unfold Fz;rcases h3 with rfl|⟨b,off,rfl,hx⟩
 ·exact .inl ⟨.inr (by simp),hk⟩
 ·exact .inr ⟨b,off,_,rfl,hx,hk⟩
abbrev oP (h:Heap) (v:Value) (l:List Vl):Prop:=mZ 2 h v (l.map bR)
abbrev HI (h:Heap) (v:Value) (l:List Int):Prop:=mZ 1 h v (l.map bN)
theorem jM:∀ l:List Vl,eu (l.map bR).flatten=true
 | []=>rfl
 | x::l=>by simp[bR,eu,mP,jM l]
theorem K4 (v:Value) (l:List Int) (h:Heap) (hr:HI h v l) :
  bI prog 114 [v] h λv h'=>h.le h'/\∃ B,dR h' v l B/\∀ b∈B,h b=none:=by
 have ig:=hr;obtain⟨h1,h2,p,c,rfl,h3,h4⟩:=hr;have hlen:=eL bN l;refine bZ au func114 VL VM rfl ?_;conv=>whnf
 refine Kw rfl rfl rfl ?_;conv=>whnf
 cases p with
 | none =>
  conv=>whnf
  have hl:l.map bN=[]:=h4.elim id (λ⟨_,_,hx,_⟩=>by cases hx);exact⟨z_ h,[],⟨by simp[hl],.inl ⟨rfl,hl,rfl⟩⟩,by simp⟩
 | some a =>
  conv=>whnf
  refine new (λb hb=>?_);conv=>whnf
  have hle:=Heap.aP (z_ h) hb (o:=.cells #[] 3);refine(ig.le hle).OF ?_;conv=>whnf
  refine dA (h0:=h) (xs:=[]) (ys:=l.map bN) (B:=[b]) ⟨by simp,.inr ⟨b,0,[],3,rfl,by simp,by simp[Heap.set,uI],by simp,rfl⟩⟩ (by simpa using hb) hle rfl rfl (by simp[bN]) (by rw[ek];exact dS l) rfl (by simp;simp at h1;omega) (by simp;simp at h1;omega) ?_;intro v' h' B' g1 g2 g3 g4 g5;conv=>whnf
  exact⟨g1,B',by simpa using g2,g3⟩
theorem vc (v:Value) (l:List Vl) (h:Heap) (hr:oP h v l) :
  bI prog 115 [v] h λv h'=>h.le h'/\∃ B,cj h' v l B/\∀ b∈B,h b=none:=by
 have ig:=hr;obtain⟨h1,h2,p,c,rfl,h3,h4⟩:=hr;have hlen:=eL bR l;refine bZ au func115 VN VO rfl ?_;conv=>whnf
 refine Kw rfl rfl rfl ?_;conv=>whnf
 cases p with
 | none =>
  conv=>whnf
  have hl:l.map bR=[]:=h4.elim id (λ⟨_,_,hx,_⟩=>by cases hx);exact⟨z_ h,[],⟨by simp[hl],.inl ⟨rfl,hl,rfl⟩⟩,by simp⟩
 | some a =>
  conv=>whnf
  refine new (λb hb=>?_);conv=>whnf
  have hle:=Heap.aP (z_ h) hb (o:=.cells #[] 31);refine(ig.le hle).OF ?_;conv=>whnf
  refine dA (h0:=h) (xs:=[]) (ys:=l.map bR) (B:=[b]) ⟨by simp,.inr ⟨b,0,[],31,rfl,by simp,by simp[Heap.set,uI],by simp,rfl⟩⟩ (by simpa using hb) hle rfl rfl (by simp[bR]) (jM l) rfl (by simp;simp at h1;omega) (by simp;simp at h1;omega) ?_;intro v' h' B' g1 g2 g3 g4 g5;conv=>whnf
  exact⟨g1,B',by simpa using g2,g3⟩
def ObR (h:Heap) (x:List Value) (o:Ob):Prop:=∃ v,x=[.int .i64 o.cls,v]/\oP h v o.aW
def OG (h:Heap) (x:List Value) (f:bQ):Prop:=∃ v1 v2,x=[.int .i64 f.U,.int .i64 f.pc,v1,v2]/\oP h v1 f.locals/\oP h v2 f.stack
def wI (h:Heap) (mc:List Value) (M:bM):Prop:=∃ vo vf vs,mc=ay vo vf vs M/\M.objs.length<=1000000/\M.ag.length<=1000000/\Row 2 ObR h vo M.objs/\Row 4 OG h vf M.ag/\HI h vs M.said
theorem ObR.le {h h':Heap} (hl:h.le h') {x:List Value} {o:Ob} (hr:ObR h x o):ObR h' x o:=by
 obtain⟨v,h1,h2⟩:=hr;exact⟨v,h1,h2.le hl⟩
theorem OG.le {h h':Heap} (hl:h.le h') {x:List Value} {f:bQ} (hr:OG h x f):OG h' x f:=by
 obtain⟨v1,v2,h1,h2,h3⟩:=hr;exact⟨v1,v2,h1,h2.le hl,h3.le hl⟩
theorem wI.le {h h':Heap} (hl:h.le h') {mc:List Value} {M:bM} (hr:wI h mc M):wI h' mc M:=by
 obtain⟨vo,vf,vs,h1,h2,h3,h4,h5,h6⟩:=hr;exact⟨vo,vf,vs,h1,h2,h3,h4.le hl (λ_ _ hx=>hx.le hl),h5.le hl (λ_ _ hx=>hx.le hl),h6.le hl⟩
def Small (M:bM):Prop:=M.objs.length<=1000000/\M.ag.length<=1000000/\M.said.length<=1000000/\(∀ o∈M.objs,o.aW.length<=1000000)/\∀ f∈M.ag,f.locals.length<=1000000/\f.stack.length<=1000000
theorem Rows.mem {α:Type} {R:Heap->List Value->α->List Nat->Prop} {h:Heap} {xs:List (List Value)} {l:List α} {B:List Nat} (hr:Rows R h xs l B):∀ i (hi:i < l.length) (hj:i < xs.length),∃ C,R h xs[i] l[i] C:=by
 induction hr with
 | nil=>intro i hi;simp at hi
 | cons h1 _ ih =>
  intro i hi hj;cases i with
  | zero=>exact⟨_,h1⟩
  | succ i=>simpa using ih i (by simpa using hi) (by simpa using hj)
theorem eN.row {α:Type} {R:Heap->List Value->α->List Nat->Prop} {Q:Heap->List Value->α->Prop} {sz:Nat} {h:Heap} {v:Value} {l:List α} {B:List Nat} (ho:eN R sz h v l B) (hl:l.length<=1000000) (hq:∀ x a C,a∈l->R h x a C->Q h x a):Row sz Q h v l:=by
 obtain⟨xs,B0,B1,⟨hx,hc⟩,h2,_⟩:=ho;have hlen:=h2.len;rcases hc with ⟨rfl,rfl,_⟩|⟨b,c,rest,t,rfl,gF,hb,pI,_⟩
 ·have:l=[]:=List.eq_nil_of_length_eq_zero (by simpa using hlen.symm);subst this;exact⟨by simp,none,0,rfl,by simp,.inl rfl⟩
 ·refine⟨by omega,_,c,by rw[hlen],by omega,.inr ⟨b,0,rfl,λi a hi=>?_⟩⟩;obtain⟨bV,Qx⟩:=List.getElem?_eq_some_iff.1 hi;have Qy:i < xs.length:=by omega
  obtain⟨C,hR⟩:=h2.mem i bV Qy;rw[Qx]at hR;refine⟨xs[i],?_,hq _ _ C (Qx ▸ x_ bV) hR⟩;have R4:xs=xs.take i++xs[i]::xs.drop (i+1):=by simp
  have dj:(xs.take i).flatten.length=i*sz:=by
   rw[bW (sz:=sz) (λy hy=>hx y (List.mem_of_mem_take hy)),List.length_take,Nat.min_eq_left (by omega)]
  have HE:(xs[i]).length=sz:=hx _ (x_ Qy);have qU:xs.flatten++rest=(xs.take i).flatten++(xs[i]++((xs.drop (i+1)).flatten++rest)):=by
   have e:=congrArg List.flatten R4;simp only[List.flatten_append,List.flatten_cons]at e;rw[e];simp only[List.append_assoc]
  rw[bO hb _ _ (by rw[qU];simp only[U_];omega),qU];simp only[Nat.zero_add];rw[List.drop_append_of_le_length (by omega),<-dj,List.drop_length,List.nil_append,<-HE,List.take_left]
theorem gN.read {h:Heap} {mc:List Value} {M:bM} {B:List Nat} (ho:gN h mc M B) (hs:Small M):wI h mc M:=by
 obtain⟨vo,vf,vs,B1,B2,B3,rfl,h2,h3,h4,rfl⟩:=ho;obtain⟨s1,s2,s3,s4,s5⟩:=hs;refine⟨vo,vf,vs,rfl,s1,s2,h2.row s1 ?_,h3.row s2 ?_,h4.read (by simpa using s3)⟩
 ·rintro x a C ha ⟨v,h5,h6⟩;exact⟨v,h5,h6.read (by simpa using s4 a ha)⟩
 ·rintro x a C ha ⟨v1,v2,C1,C2,h5,h6,h7,_⟩;exact⟨v1,v2,h5,h6.read (by simpa using (s5 a ha).1),h7.read (by simpa using (s5 a ha).2)⟩
theorem eN.form {α:Type} {R:Heap->List Value->α->List Nat->Prop} {sz:Nat} {h:Heap} {v:Value} {l:List α} {B:List Nat} (ho:eN R sz h v l B):∃ p c,v=.slice p l.length c/\l.length<=c:=by
 obtain⟨xs,B0,B1,h1,h2,_⟩:=ho;obtain⟨p,c,rfl,hc⟩:=h1.form;have:=h2.len;exact⟨p,c,by rw[this],by omega⟩
theorem oQ {α:Type} {R:Heap->List Value->α->List Nat->Prop} (hR:Kept R) (hI:OD R) {bytes sz:Nat} {zero:List Value} {el:TypeId} {h0 h:Heap} {p:Option Addr} {n cap:Nat} {l:List α} {a:α} {B Bi:List Nat} {m:Nat} {vs:List Value} {K:Value->Heap->Prop}
  (ho:eN R sz h (.slice p n cap) l B) (hy:R h vs a Bi) (hnd:Nd (B++Bi)) (hB:∀ b∈B++Bi,h0 b=none) (hle:h0.le h) (hm:m=1) (JT:vs.length=sz) (hc:eu vs=true) (hz:zero.length=sz)
  (gL:(l.length+1)*bytes<=2 ^ 44) (fO:l.length+1<=2 ^ 44)
  (hk:∀ v' h' B',h0.le h'->eN R sz h' v' (l++[a]) B'->Nd B'->(∀ b∈B',h0 b=none)->Ev h h' (B++Bi) B'->K v' h'):App bytes sz zero el h p n cap m vs K:=by
 obtain⟨xs,B0,B1,h1,h2,rfl⟩:=ho;have hlen:=h2.len;have ace:=h2.in hI;have yS:=hI _ _ _ _ hy;refine dA (h0:=h0) (ys:=[vs]) h1 (λb hb=>hB b (by simp[hb])) hle (by simp) hm (by simpa using JT) hc hz (by simpa [hlen]using gL) (by simpa [hlen]using fO) ?_;intro v' h' B' g1 g2 g3 g4 g5;have js:=hnd;have dis:∀ b,b∈B1++Bi->b ∉ B0:=by
  intro b hb tZ;have:=js b;have:=W_.2 hb;have:=W_.2 tZ;simp only[Y_]at *;omega
 have fW:∀ b,b∈B1++Bi->∃ o,h b=some o:=λb hb=>(u_.1 hb).elim (ace b) (yS b);have u0:cR h h' (B1++Bi):=λb hb o ho=>by rw[g4 b (dis b hb) (by rw[ho];simp)];exact ho
 refine hk v' h' (B'++(B1++Bi)) g1 ⟨xs++[vs],B',B1++Bi,by simpa using g2,(h2.aJ hR u0.l).app (Rows.one (hR _ _ _ _ _ u0.r hy)),rfl⟩ ?_ ?_ ?_
 ·have:=Nd.swap (A:=B1++Bi) (X:=B0) (X':=B') (hnd.perm λa=>by simp only[Y_];omega) g2.nd (λb hb=>?_)
  ·exact this.perm λa=>by simp only[Y_];omega
  ·rcases g5 b hb with hx|hx
   ·exact .inl hx
   ·refine .inr λhy=>?_;obtain⟨o,ho⟩:=fW b hy;rw[hx]at ho;cases ho
 ·intro b hb;rcases u_.1 hb with hb|hb
  ·exact g3 b hb
  ·exact hB b (by simp at hb ⊢;grind)
 ·refine⟨λb hb hs=>g4 b (λhx=>hs (by simp[hx])) hb,λb hb=>?_⟩;rcases u_.1 hb with hb|hb
  ·exact(g5 b hb).imp (λhx=>by simp[hx]) id
  ·exact .inl (by simp at hb ⊢;grind)
theorem Cr (f:bQ) (v1 v2:Value) (h:Heap) (h1:oP h v1 f.locals) (h2:oP h v2 f.stack) :
  bI prog 116 [.agg #[.int .i64 f.U,.int .i64 f.pc,v1,v2]] h λv h'=>h.le h'/\∃ x B,v=.agg ⟨x⟩/\x.length=4/\eu x=true/\qf h' x f B/\Nd B/\∀ b∈B,h b=none:=by
 have iu:=h1;have Fo:=h2;obtain⟨_,_,p1,c1,rfl,_⟩:=h1;obtain⟨_,_,p2,c2,rfl,_⟩:=h2;refine bZ au func116 VP VQ rfl ?_;conv=>whnf
 refine cX (vc _ _ h iu) ?_;rintro v h1 ⟨l1,B1,o1,n1⟩;refine⟨l1,?_⟩;have ff:=o1.form;obtain⟨Ug,Qu,rfl,_⟩:=ff;conv=>whnf
 refine cX (vc _ _ h1 (Fo.le l1)) ?_;rintro v h2 ⟨l2,B2,o2,n2⟩;refine⟨l2,?_⟩;have ff:=o2.form;obtain⟨Uh,Qv,rfl,_⟩:=ff;conv=>whnf
 refine⟨y_ l1 l2,_,B1++B2,rfl,rfl,rfl,⟨_,_,B1,B2,rfl,o1.aJ (cR.of_le l2 _),o2,rfl⟩,?_,?_⟩
 ·intro a;have e1:=o1.nd a;have e2:=o2.nd a;simp only[Y_];by_cases hm:a∈B2
  ·have:B1.count a=0:=by
    refine List.count_eq_zero.2 λhx=>?_;obtain⟨o,ho⟩:=o1.in a hx;rw[n2 a hm]at ho;cases ho
   omega
  ·have:=List.count_eq_zero.2 hm;omega
 ·intro b hb;rcases u_.1 hb with hb|hb
  ·exact n1 b hb
  ·cases hh:h b with
   | none=>rfl
   | some o=>have:=n2 b hb;rw[l1 b o hh]at this;cases this
structure Acc {α:Type} (R:Heap->List Value->α->List Nat->Prop) (sz:Nat) (h0 h:Heap) (v:Value) (l:List α) (B A:List Nat):Prop where
 le:h0.le h
 own:eN R sz h v l B
 nd:Nd (B++A)
 fr:∀ b∈B++A,h0 b=none
 At:∀ b∈A,∃ o,h b=some o
theorem Acc.start {α:Type} {R:Heap->List Value->α->List Nat->Prop} {sz:Nat} {h0 h:Heap} {A:List Nat} (hl:h0.le h) (nd:Nd A) (fr:∀ b∈A,h0 b=none) (At:∀ b∈A,∃ o,h b=some o):Acc R sz h0 h (.slice none 0 0) [] [] A :=
 ⟨hl,⟨[],[],[],⟨by simp,.inl ⟨rfl,rfl,rfl⟩⟩,.nil,rfl⟩,nd,fr,At⟩
theorem vg {α:Type} {R:Heap->List Value->α->List Nat->Prop} (hR:Kept R) (hI:OD R) {bytes sz:Nat} {zero:List Value} {el:TypeId} {h0 h h1:Heap} {p:Option Addr} {n cap:Nat} {l:List α} {a:α} {B A Bi:List Nat} {m:Nat} {vs:List Value} {K:Value->Heap->Prop}
  (ac:Acc R sz h0 h (.slice p n cap) l B A) (hl:h.le h1) (hy:R h1 vs a Bi) (hBi:Nd Bi) (hn:∀ b∈Bi,h b=none) (hm:m=1) (JT:vs.length=sz) (hc:eu vs=true) (hz:zero.length=sz)
  (gL:(l.length+1)*bytes<=2 ^ 44) (fO:l.length+1<=2 ^ 44)
  (hk:∀ p' c' h2 B',Acc R sz h0 h2 (.slice p' (l.length+1) c') (l++[a]) B' A->cR h h2 A->K (.slice p' (l.length+1) c') h2):App bytes sz zero el h1 p n cap m vs K:=by
 obtain⟨hle,own,nd,fr,At⟩:=ac;have acf:=own.in hI;have key:∀ b,b∈Bi->b ∉ B++A:=by
  intro b hb hx;rcases u_.1 hx with hx|hx
  ·obtain⟨o,ho⟩:=acf b hx;rw[hn b hb]at ho;cases ho
  ·obtain⟨o,ho⟩:=At b hx;rw[hn b hb]at ho;cases ho
 have nd':Nd (B++A++Bi):=by
  have:=Nd.swap (A:=B++A) (X:=[]) (X':=Bi) (by simpa using nd) hBi (λb hb=>.inr (key b hb));exact this
 have fr':∀ b∈Bi,h0 b=none:=by
  intro b hb;cases hh:h0 b with
  | none=>rfl
  | some o=>have:=hn b hb;rw[hle b o hh]at this;cases this
 refine oQ hR hI (h0:=h0) (own.aJ hR (cR.of_le hl _)) hy (nd'.less λa=>by simp only[Y_];omega) (λb hb=>?_) (y_ hle hl) hm JT hc hz gL fO ?_
 ·rcases u_.1 hb with hb|hb
  ·exact fr b (by simp[hb])
  ·exact fr' b hb
 intro v' h2 B' g1 g2 g3 g4 g5;obtain⟨p',c',rfl,pW⟩:=g2.form;have hA:∀ b∈A,b ∉ B++Bi:=by
  intro b hb hx;have:=nd' b;have h1:=W_.2 hb;have h2:=W_.2 hx;simp only[Y_]at *;omega
 have u0:cR h h2 A:=λb hb o ho=>by
  have Qz:=hl b o ho;rw[g5.iB b (by rw[Qz];simp) (hA b hb)];exact Qz
 have hn:(l++[a]).length=l.length+1:=by simp
 rw[hn]at g2 ⊢;refine hk p' c' h2 B' ⟨g1,g2,?_,?_,λb hb=>?_⟩ u0
 ·have:=Nd.swap (A:=A) (X:=B++Bi) (X':=B') (nd'.perm λa=>by simp only[Y_];omega) g3 (λb hb=>?_)
  ·exact this.perm λa=>by simp only[Y_];omega
  ·rcases g5.new b hb with hx|hx
   ·exact .inl hx
   ·refine .inr λhy=>?_;obtain⟨o,ho⟩:=At b hy;rw[hl b o ho]at hx;cases hx
 ·intro b hb;rcases u_.1 hb with hb|hb
  ·exact g4 b hb
  ·exact fr b (by simp[hb])
 ·obtain⟨o,ho⟩:=At b hb;exact⟨o,u0 b hb o ho⟩
theorem D8 (mc:List Value) (M:bM) (h:Heap) (hr:wI h mc M) :
  bI prog 59 [.agg ⟨mc⟩] h λv h'=>h.le h'/\∃ D9 B,v=.agg ⟨D9⟩/\gN h' D9 M B/\Nd B/\∀ b∈B,h b=none:=by
 obtain⟨vo,vf,vs,rfl,s1,s2,ho,hf,hs⟩:=hr;obtain⟨po,co,rfl,_,_⟩:=ho.len;obtain⟨pf,cf,rfl,_,_⟩:=hf.len;have QA:=hs;obtain⟨_,_,ps,cs,rfl,_⟩:=hs;refine bZ au func59 F59 abB rfl ?_;unfold ay;conv=>whnf
 refine cX (K4 _ _ h QA) ?_;rintro v h1 ⟨l1,Bs,os,ns⟩;refine⟨l1,?_⟩;have ff:=os.form;obtain⟨QB,jU,rfl,_⟩:=ff;conv=>whnf
 refine fh [1,2,3,19,20,21] [1,2,3] (λs:Nat × Heap × Option Addr × Nat × List Nat=>s.1<=M.objs.length/\Acc mA 2 h s.2.1 (.slice s.2.2.1 s.1 s.2.2.2.1) (M.objs.take s.1) s.2.2.2.2 Bs/\dR s.2.1 (.slice QB (M.said.map bN).length jU) M.said Bs) (λs=>M.objs.length-s.1)
  (λs=>([.l 1 0,.l 2 0,.l 3 0,.v (.slice po M.objs.length co),.v (.int .i64 M.objs.length),.v (.int .i64 s.1)],
   [some (ay (.slice po M.objs.length co) (.slice pf M.ag.length cf) (.slice ps (M.said.map bN).length cs) M),some [.slice none 0 0,.slice none 0 0,.slice none 0 0,.int .i64 0,.int .i64 0,.bool false,.int .i64 0],
    some (ay (.slice s.2.2.1 s.1 s.2.2.2.1) (.slice none 0 0) (.slice QB (M.said.map bN).length jU) M)],s.2.1))
  (0,h1,none,0,[]) ⟨by omega,Acc.start l1 os.nd ns os.in,os⟩ rfl ?_
 rintro⟨i,h2,p,c,B⟩ ⟨hi,ac,os⟩;simp only at hi ac os ⊢;unfold ay;conv=>whnf
 apply ax<;>intro g;all_goals conv=>whnf
 ·have bV:i < M.objs.length:=by omega
  have e:=(ho.le ac.le (λ_ _ hx=>hx.le ac.le)).get bV;obtain⟨bb,off,xs,hq,e1,vv,rfl,e2⟩:=e;have KV:=e2;obtain⟨_,_,pv,cv,rfl,_⟩:=e2;refine aq ?_;conv=>whnf
  refine aG hq ?_;conv=>whnf
  refine dJ e1 ?_;conv=>whnf
  refine cX (vc _ _ h2 KV) ?_;rintro v h3 ⟨l3,Bv,ov,nv⟩;refine⟨l3,?_⟩;have ff:=ov.form;obtain⟨pv',cv',rfl,_⟩:=ff;conv=>whnf
  refine vg jP Ad (a:=M.objs[i]) (Bi:=Bv) ac l3 ⟨_,rfl,ov⟩ ov.nd nv rfl rfl rfl rfl (by simp;omega) (by simp;omega) ?_;intro p' c' h4 B' HJ hk;have dj:(M.objs.take i).length=i:=by simp;omega
  rw[List.take_append_getElem bV,dj]at HJ;rw[dj];conv=>whnf
  refine ah ?_;conv=>whnf
  exact dm (i+1,h4,p',c',B') ⟨by omega,HJ,os.aJ hk⟩ (by simp only;omega) rfl
 ·have mB:i=M.objs.length:=by omega
  subst mB;rw[List.take_length]at ac;have hA:Nd (B++Bs):=ac.nd;refine fh [2,3,38,39,40] [2,3] (λs:Nat × Heap × Option Addr × Nat × List Nat=>s.1<=M.ag.length/\Acc qf 4 h s.2.1 (.slice s.2.2.1 s.1 s.2.2.2.1) (M.ag.take s.1) s.2.2.2.2 (B++Bs)/\eN mA 2 s.2.1 (.slice p M.objs.length c) M.objs B/\dR s.2.1 (.slice QB (M.said.map bN).length jU) M.said Bs) (λs=>M.ag.length-s.1)
   (λs=>([.l 2 0,.l 3 0,.v (.slice pf M.ag.length cf),.v (.int .i64 M.ag.length),.v (.int .i64 s.1)],
    [some [.slice none 0 0,.slice none 0 0,.slice none 0 0,.int .i64 0,.int .i64 0,.bool false,.int .i64 0],
     some (ay (.slice p M.objs.length c) (.slice s.2.2.1 s.1 s.2.2.2.1) (.slice QB (M.said.map bN).length jU) M)],s.2.1))
   (0,h2,none,0,[]) ⟨by omega,Acc.start ac.le hA ac.fr (λb hb=>(u_.1 hb).elim (ac.own.in Ad b) (ac.At b)),ac.own,os⟩ rfl ?_
  rintro⟨i,h3,p2,c2,B2⟩ ⟨hi,yT,oo,os⟩;simp only at hi yT oo os ⊢;unfold ay;conv=>whnf
  apply ax<;>intro g;all_goals conv=>whnf
  ·have bV:i < M.ag.length:=by omega
   have e:=(hf.le yT.le (λ_ _ hx=>hx.le yT.le)).get bV;obtain⟨bb,off,xs,hq,e1,v1,v2,rfl,e2,e3⟩:=e;have KV:=e2;have e30:=e3;obtain⟨_,_,pv,cv,rfl,_⟩:=e2;obtain⟨_,_,pw,cw,rfl,_⟩:=e3;refine aq ?_;conv=>whnf
   refine aG hq ?_;conv=>whnf
   refine dJ e1 ?_;conv=>whnf
   refine cX (Cr _ _ _ h3 KV e30) ?_;rintro v h4 ⟨l4,x,Bv,rfl,hx,yU,ov,ndv,nv⟩;refine⟨l4,?_⟩;have ov0:=ov;obtain⟨w1,w2,C1,C2,rfl,IQ,HK,rfl⟩:=ov;obtain⟨pw1,cw1,rfl,_⟩:=IQ.form;obtain⟨pw2,cw2,rfl,_⟩:=HK.form;conv=>whnf
   refine vg mY Ui (a:=M.ag[i]) yT l4 ov0 ndv nv rfl rfl rfl rfl (by simp;omega) (by simp;omega) ?_;intro p' c' h5 B' HJ hk;have dj:(M.ag.take i).length=i:=by simp;omega
   rw[List.take_append_getElem bV,dj]at HJ;rw[dj];conv=>whnf
   refine ah ?_;conv=>whnf
   exact dm (i+1,h5,p',c',B') ⟨by omega,HJ,oo.aJ jP hk.l,os.aJ hk.r⟩ (by simp only;omega) rfl
  ·have mB:i=M.ag.length:=by omega
   subst mB;rw[List.take_length]at yT;refine⟨yT.le,_,B++B2++Bs,rfl,⟨_,_,_,B,B2,Bs,rfl,oo,yT.own,os,rfl⟩,yT.nd.perm λa=>by simp only[Y_];omega,λb hb=>yT.fr b (by simp at hb ⊢;grind)⟩
def di (u:aO) (x:ez):Option (List Int) :=
 if x.kind=4\/x.kind=5\/x.kind=6\/x.kind=22 then some [0]
 else if x.kind=7\/x.kind=8\/x.kind=9 then some [1,1]
 else if x.kind=13\/x.kind=24 then some [1]
 else if x.kind=10\/x.kind=14\/x.kind=17\/x.kind=19\/x.kind=23 then some [2]
 else if x.kind=15 then some [2,1]
 else if x.kind=16 then some [2,1,0]
 else if x.kind=18 then some [2,0]
 else if x.kind=20 then some (List.replicate (aV u x.a).args.length 0)
 else if x.kind=21 then (if find u x.a x.b < 0 then none else some (2::List.replicate (aV u (find u x.a x.b)).args.length 0))
 else some []
theorem ua {c s:Int}:∀(l:List cL) (k:Int),jK c s l k < k+l.length\/jK c s l k = -1
 | [],k=>.inr rfl
 | m::r,k=>by
  rw[jK];split
  ·left;simp;omega
  ·rcases ua (c:=c) (s:=s) r (k+1)with h|h
   ·left;simp at h ⊢;omega
   ·exact .inr h
theorem xC {u:aO} {s:Int}:∀(k:Nat) (c:Int),-1<=mb u s k c/\(mb u s k c < u.methods.length)
 | 0,c=>by simp[mb];omega
 | k+1,c=>by
  rw[mb];split
  ·split
   ·have h1:=ua (c:=c) (s:=s) u.methods 0;omega
   ·exact xC k _
  ·omega
theorem jN (u:aO) (c s:Int) : -1<=find u c s/\find u c s < u.methods.length:=xC _ _
theorem jC {vs:List (List Value)} {sz:Nat} {h:Heap} {b n:Nat} {t:TypeId} (hx:∀ x∈vs,x.length=sz) (hn:n=vs.length) (hb:h b=some (.cells vs.flatten.toArray t (0,0))):cr sz h (.slice (some ⟨b,0,none⟩) n n) vs [b]:=by
 subst hn;exact⟨hx,.inr ⟨b,_,[],t,rfl,Nat.le_refl _,by simpa using hb,by rw[List.append_nil,bW hx],rfl⟩⟩
theorem R5 (us:List Value) (u:aO) (x:ez) (h:Heap) (hu:dG h us u) (ok:cI u.J) (Fo:x.kind=20->0<=x.a/\x.a < u.methods.length) (Fp:x.kind=21->0<=x.a/\x.a < u.J.length) (hargs:∀ m∈u.methods,m.args.length<=2) :
  cZ prog 187 [.agg ⟨us⟩,.agg #[.int .i64 x.kind,.int .i64 x.a,.int .i64 x.b]] h λo h'=>match o with
   | .ret v=>∃ ws,di u x=some ws/\ws.length<=3/\h.le h'/\∃ B,dR h' v ws B/\∀ b∈B,h b=none
   | .lY c=>di u x=none/\c=j5 0/\h.le h':=by
 have iw:=hu;obtain⟨p,cc,q,d,rfl,hcs,fM,ji,hl2⟩:=hu.form;refine outs au func187 XG XH rfl ?_;conv=>whnf
 have one:∀(ws:List Int),di u x=some ws->ws.length<=3->∀ b t,h b=none->(∃ ws',di u x=some ws'/\ws'.length<=3/\h.le (h.set b (.cells (ws.map (.int .i64)).toArray t))/\∃ B,dR (h.set b (.cells (ws.map (.int .i64)).toArray t)) (.slice (some ⟨b,0,none⟩) ws.length ws.length) ws' B/\∀ b∈B,h b=none):=by
  intro ws h1 h2 b t hb;refine⟨ws,h1,h2,Heap.aP (z_ h) hb,[b],jC (t:=t) (by simp[bN]) (by simp) (by simp[Heap.set,ek]),by simpa using hb⟩
 have two:∀ k:Int,0<=k->k < u.methods.length->∃ bb off p c,q=some ⟨bb,off,none⟩/\rd h bb (off+k.toNat*8+2)=some (.slice p (aV u k).args.length c)/\(aV u k).args.length<=2:=by
  intro k h1 h2;have hi:k.toNat < u.methods.length:=by omega
  have e:=fM.get hi;obtain⟨bb,off,vs,hq,e1,e2⟩:=e;obtain⟨p1,c1,p2,c2,p3,c3,p4,c4,e3,_⟩:=e2.form;subst e3;have oE:aV u k=u.methods[k.toNat]:=gU hi (by omega);exact⟨bb,off,p1,c1,hq,by rw[oE];exact aE e1 (i:=2) rfl,by rw[oE];exact hargs _ (x_ _)⟩
 by_cases k1:x.kind=4\/x.kind=5\/x.kind=6\/x.kind=22
 ·repeat' ((first|refine cx ?_|refine bH ?_|refine dF ?_|refine cN ?_|apply ax<;>intro _|apply aT<;>intro _|apply eK<;>intro _|apply cJ<;>intro _|refine aq ?_|refine ah ?_|refine ptr ?_|refine new (λb hb=>?_))<;>conv=>whnf)
  all_goals exact one [0] (by simp[di,k1]) (by simp) b _ hb
 by_cases k2:x.kind=7\/x.kind=8\/x.kind=9
 ·repeat' ((first|refine cx ?_|refine bH ?_|refine dF ?_|refine cN ?_|apply ax<;>intro _|apply aT<;>intro _|apply eK<;>intro _|apply cJ<;>intro _|refine aq ?_|refine ah ?_|refine ptr ?_|refine new (λb hb=>?_))<;>conv=>whnf)
  all_goals exact one [1,1] (by simp[di,k1,k2]) (by simp) b _ hb
 by_cases k3:x.kind=13\/x.kind=24
 ·repeat' ((first|refine cx ?_|refine bH ?_|refine dF ?_|refine cN ?_|apply ax<;>intro _|apply aT<;>intro _|apply eK<;>intro _|apply cJ<;>intro _|refine aq ?_|refine ah ?_|refine ptr ?_|refine new (λb hb=>?_))<;>conv=>whnf)
  all_goals exact one [1] (by simp[di,k1,k2,k3]) (by simp) b _ hb
 by_cases k4:x.kind=10\/x.kind=14\/x.kind=17\/x.kind=19\/x.kind=23
 ·repeat' ((first|refine cx ?_|refine bH ?_|refine dF ?_|refine cN ?_|apply ax<;>intro _|apply aT<;>intro _|apply eK<;>intro _|apply cJ<;>intro _|refine aq ?_|refine ah ?_|refine ptr ?_|refine new (λb hb=>?_))<;>conv=>whnf)
  all_goals exact one [2] (by simp[di,k1,k2,k3,k4]) (by simp) b _ hb
 by_cases k5:x.kind=15
 ·repeat' ((first|refine cx ?_|refine bH ?_|refine dF ?_|refine cN ?_|apply ax<;>intro _|apply aT<;>intro _|apply eK<;>intro _|apply cJ<;>intro _|refine aq ?_|refine ah ?_|refine ptr ?_|refine new (λb hb=>?_))<;>conv=>whnf)
  all_goals exact one [2,1] (by simp[di,k5]) (by simp) b _ hb
 by_cases k6:x.kind=16
 ·repeat' ((first|refine cx ?_|refine bH ?_|refine dF ?_|refine cN ?_|apply ax<;>intro _|apply aT<;>intro _|apply eK<;>intro _|apply cJ<;>intro _|refine aq ?_|refine ah ?_|refine ptr ?_|refine new (λb hb=>?_))<;>conv=>whnf)
  all_goals exact one [2,1,0] (by simp[di,k6]) (by simp) b _ hb
 by_cases k7:x.kind=18
 ·repeat' ((first|refine cx ?_|refine bH ?_|refine dF ?_|refine cN ?_|apply ax<;>intro _|apply aT<;>intro _|apply eK<;>intro _|apply cJ<;>intro _|refine aq ?_|refine ah ?_|refine ptr ?_|refine new (λb hb=>?_))<;>conv=>whnf)
  all_goals exact one [2,0] (by simp[di,k7]) (by simp) b _ hb
 by_cases k8:x.kind=20
 ·have hk:=Fo k8;have e:=two x.a hk.1 hk.2;obtain⟨bb,off,p1,c1,hq,r1,r2⟩:=e;repeat' ((first|refine cx ?_|refine bH ?_|refine dF ?_|refine cN ?_|apply ax<;>intro _|apply aT<;>intro _|apply eK<;>intro _|apply cJ<;>intro _|refine aq ?_|refine ah ?_|refine ptr ?_|refine aG hq ?_|refine ld r1 ?_)<;>conv=>whnf)
  refine ob ⟨rfl,by omega,by show(_:Int)*((8:Nat):Int)<=_;omega,by omega⟩ ?_;conv=>whnf
  refine new (λb hb=>?_);conv=>whnf
  have:=one (List.replicate (aV u x.a).args.length 0) (by simp[di,k8]) (by simpa using by omega) b 204 hb;have pI:(List.replicate (aV u x.a).args.length [Value.int .i64 0]).flatten=(List.replicate (aV u x.a).args.length (0:Int)).map (.int .i64):=by
   rw[List.map_replicate,List.flatten_replicate_singleton]
  simp only[Int.toNat_natCast];rw[pI];simpa using this
 by_cases k9:x.kind=21
 ·have hk:=Fp k9;have hf:=jN u x.a x.b;have hc:sG u x=find u x.a x.b:=by simp[sG,k9]
  have cb:=F4 _ u x h iw ok (by omega);rw[hc]at cb;repeat' ((first|refine cx ?_|refine bH ?_|refine dF ?_|refine cN ?_|apply ax<;>intro _|apply aT<;>intro _|apply eK<;>intro _|apply cJ<;>intro _|refine aq ?_|refine ah ?_|refine ptr ?_|refine aj cb ?_)<;>conv=>whnf)
  ·exact⟨by simp[di,k9];omega,rfl,z_ h⟩
  ·have e:=two (find u x.a x.b) (by omega) hf.2;obtain⟨bb,off,p1,c1,hq,r1,r2⟩:=e;refine new (λb hb=>?_);have hle:h.le (h.set b (.cells [Value.int .i64 2].toArray 204)):=Heap.aP (z_ h) hb;have Qw:rd (h.set b (.cells [Value.int .i64 2].toArray 204)) bb (off+(find u x.a x.b).toNat*8+2)=some (.slice p1 (aV u (find u x.a x.b)).args.length c1):=by
    rw[nO (by rintro rfl;unfold rd at r1;rw[hb]at r1;cases r1)];exact r1
   conv=>whnf
   repeat' ((first|apply ax<;>intro _|apply aT<;>intro _|apply eK<;>intro _|apply cJ<;>intro _|refine aG hq ?_|refine ld Qw ?_|refine aq ?_|refine ah ?_|refine ptr ?_)<;>conv=>whnf)
   refine Kx au rfl rfl rfl rfl rfl rfl rfl ⟨by show _*8<=_;omega,by omega⟩ ?_;refine dA (h0:=h) (xs:=[[.int .i64 2]]) (ys:=List.replicate (aV u (find u x.a x.b)).args.length [.int .i64 0]) (B:=[b]) (jC (t:=204) (by simp) rfl (by simp[Heap.set,uI,eS,Nt])) (by simpa using hb) hle rfl (by simp) (by simp) ?_ rfl (by simp;omega) (by simp;omega) ?_
   ·have:=dS (List.replicate (aV u (find u x.a x.b)).args.length 0);rw[List.map_replicate]at this;rw[List.flatten_replicate_singleton];exact this
   intro v' h' B' g1 g2 g3 g4 g5;conv=>whnf
   refine⟨2::List.replicate (aV u (find u x.a x.b)).args.length 0,by simp[di,k9];omega,by simpa using by omega,g1,B',?_,g3⟩;simpa [dR,bN]using g2
 repeat' ((first|refine cx ?_|refine bH ?_|refine dF ?_|refine cN ?_|apply ax<;>intro _|apply aT<;>intro _|apply eK<;>intro _|apply cJ<;>intro _|refine aq ?_|refine ah ?_|refine ptr ?_)<;>conv=>whnf)
 exact⟨[],by simp only[di,k1,k2,k3,k4,k5,k6,k7,k8,k9,if_false],by simp,z_ h,[],⟨by simp,.inl ⟨rfl,rfl,rfl⟩⟩,by simp⟩
theorem gV.mono {h0 h h':Heap} {bm:Nat} {pre post:List Value} {M:bM} {B:List Nat} (hM:gV h0 h bm pre post M B) (hl:h.le h'):gV h0 h' bm pre post M B:=by
 obtain⟨hle,⟨mc,t,hb,ho⟩,nd,fr⟩:=hM;exact⟨y_ hle hl,⟨mc,t,hl _ _ hb,ho.aJ (cR.of_le hl _)⟩,nd,fr⟩
theorem aX {h h':Heap} (hl:h.le h') {b i:Nat} {v:Value} (hr:rd h b i=some v):rd h' b i=some v:=by
 unfold rd at hr ⊢;cases hh:h b with
 | none=>rw[hh]at hr;cases hr
 | some o=>rw[hh]at hr;rw[hl b o hh];exact hr
theorem lB.mono {h0 h h':Heap} {bs bm bf off:Nat} {u:aO} {m:cL} {fs:List bQ} {f:bQ} {M:bM} {B:List Nat} (hS:lB h0 h bs bm bf off u m fs f M B) (hl:h.le h'):lB h0 h' bs bm bf off u m fs f M B:=by
 obtain⟨hM,hf,⟨jL,c,hr⟩,⟨ms,us,ts,eB,hu,hm⟩,fK⟩:=hS;exact⟨hM.mono hl,hf,⟨jL,c,aX hl hr⟩,⟨ms,us,ts,hl _ _ eB,hu,hm⟩,fK⟩
theorem gV.in {h0 h:Heap} {bm:Nat} {pre post:List Value} {M:bM} {B:List Nat} (hM:gV h0 h bm pre post M B):∀ b∈bm::B,∃ o,h b=some o:=by
 obtain⟨hle,⟨mc,t,hb,ho⟩,nd,fr⟩:=hM;intro b bA;rcases List.mem_cons.1 bA with rfl|bA
 ·exact⟨_,hb⟩
 ·exact ho.in b bA
theorem sub {a:Option Addr} {cap l size:Nat} {K:Option Addr->Prop} (hk:∀ oa,(cap≠l->oa=a.map λa=>a.add (l*size))->(cap=l->oa=a)->K oa):Sub a cap l size K:=by
 rw[BQ];unfold J5;exact hk
theorem cr.rest {sz:Nat} {h:Heap} {p oa:Option Addr} {n cap l:Nat} {xs:List (List Value)} {B:List Nat} (ho:cr sz h (.slice p n cap) xs B) (hl:l<=n) (hn:n<=1000000) (h1:cap≠l->oa=p.map λa=>a.add (l*sz)) (h2:cap=l->oa=p) :
  mZ sz h (.slice oa (n-l) (cap-l)) (xs.drop l):=by
 obtain⟨hx,⟨he,rfl,_⟩|⟨b,c,rest,t,he,hc,hb,hlen,_⟩⟩:=ho
 ·simp only[Z_]at he;obtain⟨rfl,rfl,rfl⟩:=he;have:l=0:=by omega
  subst this;exact⟨by simp,by simp,oa,0,by simp,by simp,.inl (by simp)⟩
 ·simp only[Z_]at he;obtain⟨rfl,rfl,rfl⟩:=he;refine⟨by simp;omega,λx hm=>hx x (List.mem_of_mem_drop hm),oa,cap-l,by simp,by simp;omega,?_⟩;by_cases lI:cap=l
  ·left
   apply List.eq_nil_of_length_eq_zero
   simp;omega
  ·right
   refine⟨b,l*sz,by rw[h1 lI];simp[mw],?_⟩;have HE:=bW hx;have ht:(xs.take l).flatten.length=l*sz:=by
    rw[bW (sz:=sz) (λy hy=>hx y (List.mem_of_mem_take hy)),List.length_take,Nat.min_eq_left hl]
   have hd:(xs.drop l).flatten.length=(xs.drop l).length*sz:=bW (λy hy=>hx y (List.mem_of_mem_drop hy));have he:xs.flatten=(xs.take l).flatten++(xs.drop l).flatten:=by rw[<-List.flatten_append,List.take_append_drop]
   rw[bO hb _ _ (by rw[he];simp only[U_];omega),he];rw[List.append_assoc,List.drop_append_of_le_length (by omega),<-ht,List.drop_length,List.nil_append,<-hd,List.take_left]
theorem cr.first {sz:Nat} {h:Heap} {p:Option Addr} {n cap l:Nat} {xs:List (List Value)} {B:List Nat} (ho:cr sz h (.slice p n cap) xs B) (hl:l<=n):cr sz h (.slice p l cap) (xs.take l) B:=by
 obtain⟨hx,⟨he,rfl,rfl⟩|⟨b,c,rest,t,he,hc,hb,hlen,rfl⟩⟩:=ho
 ·simp only[Z_]at he;obtain⟨rfl,rfl,rfl⟩:=he;have:l=0:=by omega
  subst this;exact⟨by simp,.inl ⟨rfl,by simp,rfl⟩⟩
 ·simp only[Z_]at he;obtain⟨rfl,rfl,rfl⟩:=he;have he:xs.flatten=(xs.take l).flatten++(xs.drop l).flatten:=by rw[<-List.flatten_append,List.take_append_drop]
  refine⟨λx hm=>hx x (List.mem_of_mem_take hm),.inr ⟨b,cap,(xs.drop l).flatten++rest,t,?_,by simp;omega,by rw[hb,he];simp,?_,rfl⟩⟩
  ·rw[List.length_take,Nat.min_eq_left hl]
  ·rw[<-hlen,he];simp
theorem cr.nth {sz:Nat} {h:Heap} {p:Option Addr} {n cap:Nat} {xs:List (List Value)} {B:List Nat} (ho:cr sz h (.slice p n cap) xs B) {i:Nat} (hi:i < xs.length) :
  ∃ b,p=some ⟨b,0,none⟩/\fj h b (0+i*sz) sz=some xs[i]/\B=[b]:=by
 have hs:xs=xs.take i++xs[i]::xs.drop (i+1):=by simp
 obtain⟨b,c,pre,post,t,he,hb,fV,tI,hB,_⟩:=cr.at (show cr sz h (.slice p n cap) (xs.take i++xs[i]::xs.drop (i+1)) B by rw[<-hs];exact ho);simp only[Z_]at he;refine⟨b,he.1,?_,hB⟩;have dj:(xs.take i).length=i:=by simp;omega
 rw[dj]at fV;rw[bO hb _ _ (by simp only[U_];omega)];rw[Nat.zero_add,<-fV,List.append_assoc,List.drop_left,<-tI,List.take_left]
def jD:List Int->List Vl->Bool
 | w::ws,v::vs=>!((decide (w=1)&&v.ref)||(decide (w=2) && !v.ref))&&jD ws vs
 | _,_=>true
def ee (u:aO) (x:ez) (cP:List Vl):Option (List Vl × List Vl):=match di u x with
 | none=>none
 | some ws=>if cP.length < ws.length then none else if jD ws (cP.drop (cP.length-ws.length))then some (cP.drop (cP.length-ws.length),cP.take (cP.length-ws.length))else none
theorem K5 {ws:List Int} {vs:List Vl}:∀ {i:Nat} (hw:i < ws.length) (hv:i < vs.length),jD (ws.drop i) (vs.drop i)=(!((decide (ws[i]=1)&&vs[i].ref)||(decide (ws[i]=2) && !vs[i].ref))&&jD (ws.drop (i+1)) (vs.drop (i+1))):=by
 intro i hw hv;rw[List.drop_eq_getElem_cons hw,List.drop_eq_getElem_cons hv,jD]
theorem xD (l:List Vl) (k:Nat):(l.map bR).drop k=(l.drop k).map bR:=by rw[List.map_drop]
structure QC (u:aO) (x:ez):Prop where
 ok:cI u.J
 args:∀ m∈u.methods,m.args.length<=2
 Fo:x.kind=20->0<=x.a/\x.a < u.methods.length
 Fp:x.kind=21->0<=x.a/\x.a < u.J.length
theorem K6 (h0 h:Heap) (bs bm bf off:Nat) (u:aO) (m:cL) (fs:List bQ) (f:bQ) (M:bM) (B:List Nat) (x:ez) (hS:lB h0 h bs bm bf off u m fs f M B) (hx:QC u x) (adD:f.stack.length<=1000) :
  cZ prog 158 [.pointer (some ⟨bs,0,none⟩),.agg #[.int .i64 x.kind,.int .i64 x.a,.int .i64 x.b]] h λo h'=>match o with
   | .ret v=>∃ aR rest,ee u x f.stack=some (aR,rest)/\∃ B' Bt,lB h0 h' bs bm bf off u m fs {f with stack:=rest} {M with ag:=fs++[{f with stack:=rest}]} B'/\Ev h h' (bm::B) (bm::B') /\
     cj h' v aR Bt/\∀ b∈Bt,b ∉ bm::B'/\b≠bs/\h0 b=none
   | .lY c=>ee u x f.stack=none/\c=j5 0/\Pn h0 bm h':=by
 have hS0:=hS;obtain⟨hM,hf,jL,⟨ms,us,ts,eB,hu,hm⟩,fK⟩:=hS;have hle:=hM.le;have iw:=hu.le hle;obtain⟨p,cc,q,d,rfl,hcs,fM,ji,hl2⟩:=hu.form;obtain⟨p1,c1,p2,c2,p3,c3,p4,c4,rfl,h1,h2,h3,h4,h5,h6,h7,h8,b1,b2,b3,b4⟩:=hm.form;have ru:fj h bs 9 2=some [.slice p u.J.length cc,.slice q u.methods.length d]:=bO eB 2 9 (by simp[stp]);refine outs au func158 WZ W0 rfl ?_;conv=>whnf
 refine dJ ru ?_;conv=>whnf
 refine sC (R5 _ u x h iw hx.ok hx.Fo hx.Fp hx.args) ?_ ?_;rotate_left
 ·rintro c h' ⟨e1,e2,e3⟩;exact⟨by simp[ee,e1],e2,hM.K1 e3⟩
 rintro v F3 ⟨ws,m3,adE,l1,Bw,ow,nw⟩;refine⟨l1,?_⟩;obtain⟨pw,cw,rfl,_⟩:=ow.form;have Dg:=eL bN ws;conv=>whnf
 obtain⟨t,qq,r,v1,ps,cs,B2,kz,hq,o2,gz,r1,r2,_⟩:=(hS0.mono l1).cP;have hlen:=eL bR f.stack;refine ld r1 ?_;conv=>whnf
 refine ld r2 ?_;conv=>whnf
 refine ah ?_;conv=>whnf
 apply ax<;>intro g1;all_goals conv=>whnf
 ·exact⟨by simp only[ee,m3];rw[if_pos (by omega)],rfl,hM.K1 l1⟩
 refine ld r1 ?_;conv=>whnf
 refine ld r2 ?_;conv=>whnf
 refine aq ?_;conv=>whnf
 refine sub (λoa k1 k2=>?_);conv=>whnf
 have YQ:(((f.stack.map bR).length:Int)-((ws.map bN).length:Int)).toNat=f.stack.length-ws.length:=by omega
 have YR:=cr.rest (oa:=oa) (l:=(((f.stack.map bR).length:Int)-((ws.map bN).length:Int)).toNat) o2 (by omega) (by omega) k1 k2;have hrv:oP F3 (.slice oa ((f.stack.map bR).length-(((f.stack.map bR).length:Int)-((ws.map bN).length:Int)).toNat) (cs-(((f.stack.map bR).length:Int)-((ws.map bN).length:Int)).toNat)) (f.stack.drop (f.stack.length-ws.length)):=by
  rw[YQ]at YR ⊢;rw[xD]at YR;exact YR
 refine aC (vc _ _ F3 hrv) ?_;rintro v jx ⟨l2,Bt,ot,nt⟩;obtain⟨pt,ct,rfl,_⟩:=ot.form;conv=>whnf
 have lZ:((f.stack.drop (f.stack.length-ws.length)).map bR).length=ws.length:=by simp;omega
 have HL:=y_ l1 l2;have HK:dR jx (.slice pw (ws.map bN).length cw) ws Bw:=ow.aJ (cR.of_le l2 _);have QD:jD ws (f.stack.drop (f.stack.length-ws.length))=false->ee u x f.stack=none:=by
  intro hx;simp only[ee,m3];rw[if_neg (by omega)];simp[hx]
 refine fh [0,5,6,7,43,44,45] [] (λi:Nat=>i<=ws.length/\jD ws (f.stack.drop (f.stack.length-ws.length))=jD (ws.drop i) ((f.stack.drop (f.stack.length-ws.length)).drop i)) (λi=>ws.length-i)
  (λi=>([.v (.pointer (some ⟨bs,0,none⟩)),.v (.slice pw (ws.map bN).length cw),.v (.int .i64 (((f.stack.map bR).length:Int)-((ws.map bN).length:Int))),.v (.slice pt ((f.stack.drop (f.stack.length-ws.length)).map bR).length ct),.v (.slice pt ((f.stack.drop (f.stack.length-ws.length)).map bR).length ct),.v (.int .i64 ((f.stack.drop (f.stack.length-ws.length)).map bR).length),.v (.int .i64 i)],[],jx)) 0 ⟨by omega,by simp⟩ rfl ?_
 rintro i ⟨hi,hg⟩;conv=>whnf
 apply ax<;>intro g2;all_goals conv=>whnf
 ·have hiw:i < ws.length:=by omega
  have hiv:i < (f.stack.drop (f.stack.length-ws.length)).length:=by simp;omega
  have e:=ot.nth (i:=i) (by simpa using hiv);obtain⟨bb,hqt,e1,_⟩:=e;have e':=HK.nth (i:=i) (by simpa using hiw);obtain⟨bw,hqw,e2,_⟩:=e';rw[List.getElem_map]at e1 e2;have gM:=K5 hiw hiv;rw[<-hg]at gM;refine aq ?_;conv=>whnf
  refine aG hqt ?_;conv=>whnf
  refine dJ e1 ?_;conv=>whnf
  refine aq ?_;conv=>whnf
  refine aG hqw ?_;conv=>whnf
  have e3:rd jx bw (0+i*1)=some (.int .i64 ws[i]):=by simpa using aE e2 (i:=0) rfl
  refine ld e3 ?_;conv=>whnf
  have again:∀ {K:Value->Prop},K (.int .i64 ws[i])->Ld jx bw (0+i*1) K:=λhk=>ld e3 hk;apply ax<;>intro q1;all_goals conv=>whnf
  ·apply eK<;>intro q3;all_goals conv=>whnf
   ·exact⟨QD (by rw[gM,q3];simp[q1]),rfl,hM.K1 HL⟩
   ·refine aq ?_;conv=>whnf
    refine aG hqw ?_;conv=>whnf
    refine ld e3 ?_;conv=>whnf
    refine bH ?_;conv=>whnf
    refine ah ?_;conv=>whnf
    refine dm (i+1) ⟨by omega,?_⟩ (by omega) rfl;rw[gM,q3];simp[q1]
  ·refine aq ?_;conv=>whnf
   refine aG hqw ?_;conv=>whnf
   refine ld e3 ?_;conv=>whnf
   apply ax<;>intro q2;all_goals conv=>whnf
   ·apply cJ<;>intro q3;all_goals conv=>whnf
    ·exact⟨QD (by rw[gM,q3];simp[q2]),rfl,hM.K1 HL⟩
    ·refine ah ?_;conv=>whnf
     refine dm (i+1) ⟨by omega,?_⟩ (by omega) rfl;rw[gM,q3];simp[q2]
   ·refine ah ?_;conv=>whnf
    refine dm (i+1) ⟨by omega,?_⟩ (by omega) rfl;rw[gM];simp[q1,q2]
 ·have mB:i=ws.length:=by omega
  have eP:jD ws (f.stack.drop (f.stack.length-ws.length))=true:=by
   rw[hg,mB,List.drop_length];rfl
  have Hr:ee u x f.stack=some (f.stack.drop (f.stack.length-ws.length),f.stack.take (f.stack.length-ws.length)):=by
   simp only[ee,m3];rw[if_neg (by omega),if_pos eP]
  have lN:=hS0.mono HL;obtain⟨t',qq',r',AQ,QB,jU,ie,acg,Cn,Uj,adF,Qw,yV,fe⟩:=lN.cP;have Qs:(f.stack.map bR).length<=jU:=by
   obtain⟨_,_,he,hc⟩:=Uj.form;simp only[Z_]at he;omega
  refine ld Qw ?_;conv=>whnf
  refine ld Qw ?_;conv=>whnf
  refine ld yV ?_;conv=>whnf
  refine aq ?_;conv=>whnf
  have YS:=Uj.first (l:=f.stack.length-ws.length) (by simp);rw[<-List.map_take]at YS;obtain⟨e1,e2,e3,B',s1,s2⟩:=fe jx _ ie (f.stack.take (f.stack.length-ws.length)) f.pc (λ_ _ _=>rfl) YS (λb hb=>.inl hb);have jV:∀ b∈Bt,h b=none:=by
   intro b hb;cases hh:h b with
   | none=>rfl
   | some o=>have:=nt b hb;rw[l1 b o hh]at this;cases this
  have yS:=ot.in;refine st acg (by simp;omega) ?_;conv=>whnf
  rw[F6 (i:=3) (by rw[Cn]) (by simp)];have tR:∀ b∈Bt,b≠bf:=by
   rintro b hb rfl;have:=jV b hb;have h9:rd h b (off+3)≠none:=by
    have:=hS0.cP;obtain⟨_,_,_,_,_,_,_,g1,_⟩:=this;intro hx;rw[jV b hb]at g1;cases g1
   exact h9 (by unfold rd;rw[this])
  rw[YQ];refine⟨_,_,Hr,B',Bt,s1,?_,?_,?_⟩
  ·exact Ev.trans (Ev.of_le HL (bm::B) (λb hb=>.inl hb)) s2
  ·refine ot.aJ λb hb o ho=>?_;simp only[Heap.set,tR b hb,if_false];exact ho
  ·intro b hb;refine⟨λhx=>?_,?_,?_⟩
   ·rcases s2.new b hx with hy|hy
    ·obtain⟨o,ho⟩:=hM.in b hy;rw[jV b hb]at ho;cases ho
    ·obtain⟨o,ho⟩:=yS b hb;rw[hy]at ho;cases ho
   ·rintro rfl;rw[jV b hb]at eB;cases eB
   ·cases hh:h0 b with
    | none=>rfl
    | some o=>have:=jV b hb;rw[hle b o hh]at this;cases this
theorem gV.whole {h0 h:Heap} {bm:Nat} {pre post:List Value} {M:bM} {B:List Nat} (hM:gV h0 h bm pre post M B) :
  ∃ t vo vf vs B1 B2 B3,h bm=some (.cells (pre++ay vo vf vs M++post).toArray t (0,0))/\eN mA 2 h vo M.objs B1/\eN qf 4 h vf M.ag B2/\dR h vs M.said B3/\B=B1++B2++B3 /\
   ∀ h' yW Ea og M' jz ie F7,h' bm=some (.cells (pre++ay yW Ea og M'++post).toArray t (0,0))->eN mA 2 h' yW M'.objs jz->eN qf 4 h' Ea M'.ag ie->dR h' og M'.said F7 ->
    Nd (bm::(jz++ie++F7))->Ev h h' (bm::B) (bm::(jz++ie++F7))->gV h0 h' bm pre post M' (jz++ie++F7):=by
 obtain⟨hle,⟨mc,t,hb,vo,vf,vs,B1,B2,B3,rfl,h1,h2,h3,rfl⟩,nd,fr⟩:=hM;refine⟨t,vo,vf,vs,B1,B2,B3,hb,h1,h2,h3,rfl,?_⟩;intro h' yW Ea og M' jz ie F7 k1 k2 k3 k4 k5 k6;exact⟨k6.le hle fr,⟨_,t,k1,yW,Ea,og,jz,ie,F7,rfl,k2,k3,k4,rfl⟩,k5,k6.fresh hle fr⟩
theorem gV.obj {h0 h:Heap} {bm:Nat} {pre post:List Value} {M:bM} {B:List Nat} {l1 l2:List Ob} {o:Ob} (hM:gV h0 h bm pre post M B) (ho:M.objs=l1++o::l2) :
  ∃ bo c tm vf vs q r t v Bi,h bm=some (.cells (pre++ay (.slice (some ⟨bo,0,none⟩) M.objs.length c) vf vs M++post).toArray tm (0,0)) /\
   h bo=some (.cells (q++[.int .i64 o.cls,v]++r).toArray t (0,0))/\q.length=l1.length*2/\cj h v o.aW Bi/\(∀ b∈Bi,b∈B/\b≠bo)/\bo∈B/\bm ∉ B /\
   ∀ h' fX,cj h' v fX Bi->(∀ b,b ∉ Bi->h b≠none->h' b=h b)->∃ B',gV h0 h' bm pre post {M with objs:=l1++{o with aW:=fX }::l2} B'/\(∀ b,b∈bm::B'↔b∈bm::B):=by
 obtain⟨t,vo,vf,vs,B1,B2,B3,hb,h1,h2,h3,rfl,fe⟩:=hM.whole;have nd:=hM.nd;have fW:=hM.in;rw[ho]at h1;obtain⟨bo,c,x,q,r,t',Bo,Bi,rfl,_,nH,hq,tI,⟨v,rfl,ov⟩,js,ach⟩:=h1.at jP;have hlen:M.objs.length=l1.length+l2.length+1:=by rw[ho];simp;omega
 have Cs:∀ b∈Bi,b∈B1/\b≠bo/\b ∉ Bo/\b ∉ B2/\b ∉ B3/\b≠bm:=by
  intro b bA;have hp:=W_.2 bA;have hc:=js b;have hn:=nd b;simp only[Y_,X_]at hc hn;refine⟨W_.1 (by omega),?_,λhx=>?_,λhx=>?_,λhx=>?_,?_⟩
  ·rintro rfl;simp at hc;omega
  ·have:=W_.2 hx;omega
  ·have:=W_.2 hx;omega
  ·have:=W_.2 hx;omega
  ·rintro rfl;simp at hn;omega
 have YT:bo∈B1:=(iU js bo).2 (by simp);have iR:bm ∉ B1++B2++B3:=by
  intro hx;have:=W_.2 hx;have hn:=nd bm;simp only[X_,beq_self_eq_true,if_true]at hn;omega
 refine⟨bo,c,t,vf,vs,q,r,t',v,Bi,by rw[hlen];exact hb,nH,hq,ov,λb bA=>⟨by simp[(Cs b bA).1],(Cs b bA).2.1⟩,by simp[YT],iR,?_⟩;intro h' fX k1 k2;have rD:∀ b,b∈bm::(B1++B2++B3)->b ∉ Bi->h' b=h b:=by
  intro b bA hn;obtain⟨o,ho⟩:=fW b bA;exact k2 b hn (by rw[ho];simp)
 obtain⟨jz,o1,o2⟩:=ach h' [.int .i64 o.cls,v] {o with aW:=fX } Bi (by rw[rD bo (by simp[YT]) (λhx=>(Cs _ hx).2.1 rfl)];exact nH) rfl ⟨v,rfl,k1⟩ (λb bA o' AS=>by
  rw[rD b (by have:=(iU js b).2 (by simp[bA]);simp[this]) (λhx=>(Cs _ hx).2.2.1 bA)];exact AS)
 have hp:∀ a,(bm::(jz++B2++B3)).count a=(bm::(B1++B2++B3)).count a:=by
  intro a;have:=js a;have:=o2 a;simp only[Y_,X_]at *;omega
 have ef:=iU hp;refine⟨jz++B2++B3,fe h' _ vf vs {M with objs:=l1++{o with aW:=fX }::l2} jz B2 B3 ?_ o1 ?_ ?_ (nd.perm hp) ?_,ef⟩
 ·rw[rD bm (by simp) (λhx=>(Cs _ hx).2.2.2.2.2 rfl)];exact hb
 ·exact h2.aJ mY λb bA o' AS=>by rw[rD b (by simp[bA]) (λhx=>(Cs _ hx).2.2.2.1 bA)];exact AS
 ·exact h3.aJ λb bA o' AS=>by rw[rD b (by simp[bA]) (λhx=>(Cs _ hx).2.2.2.2.1 bA)];exact AS
 ·refine⟨λb bA hn=>k2 b (λhx=>hn (by have:=(Cs b hx).1;simp[this])) bA,λb bA=>.inl ((ef b).1 bA)⟩
theorem lB.obj {h0 h:Heap} {bs bm bf off:Nat} {u:aO} {m:cL} {fs:List bQ} {f:bQ} {M:bM} {B:List Nat} {l1 l2:List Ob} {o:Ob} (hS:lB h0 h bs bm bf off u m fs f M B) (ho:M.objs=l1++o::l2) :
  ∃ bo c v Bi,rd h bm 0=some (.slice (some ⟨bo,0,none⟩) M.objs.length c)/\rd h bo (l1.length*2)=some (.int .i64 o.cls)/\rd h bo (l1.length*2+1)=some v/\cj h v o.aW Bi /\
   ∀ h' fX,cj h' v fX Bi->(∀ b,b ∉ Bi->h b≠none->h' b=h b)->∃ B',lB h0 h' bs bm bf off u m fs f {M with objs:=l1++{o with aW:=fX }::l2} B'/\Ev h h' (bm::B) (bm::B'):=by
 obtain⟨hM,hf,⟨jL,c0,hr⟩,⟨ms,us,ts,eB,hu,hm⟩,fK⟩:=hS;obtain⟨bo,c,tm,vf,vs,q,r,t,v,Bi,hb,nH,hq,ov,Cs,adG,iR,fe⟩:=hM.obj ho;refine⟨bo,c,v,Bi,bE hb (i:=0) (by simp) rfl,bE nH (i:=0) (by omega) rfl,bE nH (i:=1) (by omega) rfl,ov,?_⟩;intro h' fX k1 k2;obtain⟨B',K3,ef⟩:=fe h' fX k1 k2;have n1:bm ∉ Bi:=λhx=>iR (Cs _ hx).1;have n2:bs ∉ Bi:=λhx=>fK (by simp[(Cs _ hx).1]);have e1:h' bm=h bm:=k2 bm n1 (by rw[hb];simp);have e2:h' bs=h bs:=k2 bs n2 (by rw[eB];simp);refine⟨B',⟨K3,hf,⟨jL,c0,by unfold rd at hr ⊢;rw[e1];exact hr⟩,⟨ms,us,ts,by rw[e2];exact eB,hu,hm⟩,λhx=>fK ((ef bs).1 hx)⟩,⟨λb bA hn=>k2 b (λhx=>hn (by simp[(Cs b hx).1])) bA,λb bA=>.inl ((ef b).1 bA)⟩⟩
theorem vh {α:Type} (l:List α) {i:Nat} (hi:i < l.length):l=l.take i++l[i]::l.drop (i+1):=by simp
theorem IS (p:Option Addr) (n c:Nat) (a b:Int) (h:Heap) (ha:a < 0):Pure prog 121 [.slice p n c,.int .i64 a,.int .i64 b] h (.bool false):=by
 refine iC au func121 RU Qk rfl ?_;conv=>whnf
 refine fh [0,2,7] [] (λx:Int=>x < 0) (λx=>0)
  (λx=>([.v (.slice p n c),.v (.int .i64 b),.v (.int .i64 x)],[],h)) a ha rfl ?_
 rintro x hx;conv=>whnf
 refine bH ?_;conv=>whnf
 exact⟨rfl,rfl⟩
theorem xE (p:Option Addr) (n c:Nat) (cs:List eD) (a b:Int) (h:Heap) (hr:fP h (.slice p n c) cs) (ok:cI cs) (hl:a < cs.length) :
  Pure prog 121 [.slice p n c,.int .i64 a,.int .i64 b] h (.bool (up cs a b)):=by
 by_cases h0:a < 0
 ·rw[rz h0];exact IS p n c a b h h0
 ·exact sD p n c cs a b h hr ok (by omega) hl
def aci:Ob:=⟨0,[]⟩
def aF (l:List Ob) (n:Int):Ob:=l.getD (n-1).toNat aci
theorem vj {l:List Ob} {n:Int} {i:Nat} (hi:i < l.length) (hn:n=i+1):aF l n=l[i]:=by
 have:(n-1).toNat=i:=by omega
 simp[aF,this,hi]
theorem lB.j6 {h0 h:Heap} {bs bm bf off:Nat} {u:aO} {m:cL} {fs:List bQ} {f:bQ} {M:bM} {B:List Nat} (hS:lB h0 h bs bm bf off u m fs f M B) {n:Int} (h1:0 < n) (h2:n<=M.objs.length) :
  ∃ bo c v Bi,rd h bm 0=some (.slice (some ⟨bo,0,none⟩) M.objs.length c)/\rd h bo (0+(n-1).toNat*2)=some (.int .i64 (aF M.objs n).cls)/\rd h bo (0+(n-1).toNat*2+1)=some v/\cj h v (aF M.objs n).aW Bi /\
   ∀ h' fX,cj h' v fX Bi->(∀ b,b ∉ Bi->h b≠none->h' b=h b)->∃ B',lB h0 h' bs bm bf off u m fs f {M with objs:=M.objs.set (n-1).toNat {aF M.objs n with aW:=fX } } B'/\Ev h h' (bm::B) (bm::B'):=by
 have hi:(n-1).toNat < M.objs.length:=by omega
 obtain⟨bo,c,v,Bi,r1,r2,r3,ov,fe⟩:=hS.obj (vh M.objs hi);have dj:(M.objs.take (n-1).toNat).length=(n-1).toNat:=by simp;omega
 have ud:aF M.objs n=M.objs[(n-1).toNat]:=vj hi (by omega);rw[dj]at r2 r3;rw[ud];refine⟨bo,c,v,Bi,r1,by simpa using r2,by simpa using r3,ov,λh' fX k1 k2=>?_⟩;have ko:M.objs.set (n-1).toNat {M.objs[(n-1).toNat]with aW:=fX }=M.objs.take (n-1).toNat++{M.objs[(n-1).toNat]with aW:=fX }::M.objs.drop ((n-1).toNat+1):=by
  rw[List.set_eq_take_append_cons_drop,if_pos hi]
 rw[ko];exact fe h' fX k1 k2
theorem lB.mp {h0 h:Heap} {bs bm bf off:Nat} {u:aO} {m:cL} {fs:List bQ} {f:bQ} {M:bM} {B:List Nat} (hS:lB h0 h bs bm bf off u m fs f M B) :
  rd h bs 0=some (.pointer (some ⟨bf,off,none⟩))/\rd h bs 11=some (.pointer (some ⟨bm,0,none⟩))/\(∃ c,rd h bm 1=some (.slice (some ⟨bf,0,none⟩) (fs.length+1) c)) /\
   ∃ p c q d,dG h0 [.slice p u.J.length c,.slice q u.methods.length d] u/\rd h bs 9=some (.slice p u.J.length c)/\rd h bs 10=some (.slice q u.methods.length d)/\fj h bs 9 2=some [.slice p u.J.length c,.slice q u.methods.length d] /\
    ∃ p2 c2,rd h bs 6=some (.slice p2 m.code.length c2)/\Row 3 DU h0 (.slice p2 m.code.length c2) m.code:=by
 obtain⟨hM,hf,⟨jL,c0,hr⟩,⟨ms,us,ts,eB,hu,hm⟩,fK⟩:=hS;obtain⟨p,cc,q,d,rfl,hcs,fM,ji,hl2⟩:=hu.form;obtain⟨p1,c1,p2,c2,p3,c3,p4,c4,rfl,h1,h2,h3,h4,h5,h6,h7,h8,b1,b2,b3,b4⟩:=hm.form;exact⟨bJ eB rfl,bJ eB rfl,⟨c0,hr⟩,p,cc,q,d,hu,bJ eB rfl,bJ eB rfl,bO eB 2 9 (by simp[stp]),p2,c2,bJ eB rfl,h6⟩
theorem Ct (h0 h:Heap) (bs bm bf off:Nat) (u:aO) (m:cL) (fs:List bQ) (f:bQ) (M:bM) (B:List Nat) (x:Vl) (g:Nat) (uQ:List Value) (so:Int->Bool) (hS:lB h0 h bs bm bf off u m fs f M B)
  (hg:(g=207/\∃ c1 c2,uQ=[c1,c2])\/(g=210/\∃ c1,uQ=[c1])\/(g=196/\uQ=[]))
  (hx:0<=x.n/\x.n<=M.objs.length) (hl:M.objs.length<=1000) (hso:0 < x.n->Pure prog g (.int .i64 (aF M.objs x.n).cls::uQ) h (.bool (so (aF M.objs x.n).cls))) :
  cZ prog 195 [.pointer (some ⟨bs,0,none⟩),.agg #[.bool x.ref,.int .i64 x.n],.func (.func g) #[] ⟨uQ⟩] h λo h'=>h'=h/\match o with
   | .ret v=>0 < x.n/\so (aF M.objs x.n).cls=true/\∃ bo c,rd h bm 0=some (.slice (some ⟨bo,0,none⟩) M.objs.length c)/\v=.pointer (some ⟨bo,0+(x.n-1).toNat*2,none⟩)
   | .lY c=>(0 < x.n/\so (aF M.objs x.n).cls=false/\c=j5 0)\/(x.n=0/\c=j5 2):=by
 obtain⟨r1,r2,_,_⟩:=hS.mp;by_cases sX:0 < x.n
 ·have ud:=hS.j6 sX hx.2;obtain⟨bo,c,v,Bi,q1,q2,q3,_,_⟩:=ud;have hc:=hso sX;rcases hg with ⟨rfl,d1,d2,rfl⟩|⟨rfl,d1,rfl⟩|⟨rfl,rfl⟩;all_goals
   refine outs au func195 RZ Qp rfl ?_;conv=>whnf
   refine gI sX ?_;conv=>whnf
   repeat' ((first|refine ld r2 ?_|refine ld q1 ?_|refine ld q2 ?_|refine aq ?_|refine ah ?_|refine ptr ?_)<;>conv=>whnf)
   refine aK hc ?_;conv=>whnf
   apply cJ<;>intro k;all_goals conv=>whnf
   ·exact⟨rfl,.inl ⟨sX,k,rfl⟩⟩
   ·refine bH ?_;conv=>whnf
    repeat' ((first|refine ld r2 ?_|refine ld q1 ?_|refine ld q2 ?_|refine aq ?_|refine ah ?_|refine ptr ?_)<;>conv=>whnf)
    exact⟨rfl,sX,k,bo,c,q1,rfl⟩
 ·rcases hg with ⟨rfl,d1,d2,rfl⟩|⟨rfl,d1,rfl⟩|⟨rfl,rfl⟩;all_goals
   refine outs au func195 RZ Qp rfl ?_;conv=>whnf
   refine cM sX ?_;conv=>whnf
   refine cx ?_;conv=>whnf
   exact⟨rfl,.inr ⟨by omega,rfl⟩⟩
theorem F8 (h:Heap) (b1 b2 bs:Nat) (p:Option Addr) (n cc:Nat) (cs:List eD) (c k:Int) (r1:rd h b1 0=some (.pointer (some ⟨bs,0,none⟩))) (r2:rd h b2 0=some (.int .i64 k)) (r3:rd h bs 9=some (.slice p n cc))
  (hr:fP h (.slice p n cc) cs) (ok:cI cs) (hc:c < cs.length) :
  Pure prog 207 [.int .i64 c,.pointer (some ⟨b1,0,none⟩),.pointer (some ⟨b2,0,none⟩)] h (.bool (up cs c k)):=by
 refine iC au func207 Yh Yi rfl ?_;conv=>whnf
 repeat' ((first|refine ld r1 ?_|refine ld r2 ?_|refine ld r3 ?_|refine aq ?_|refine ah ?_|refine ptr ?_)<;>conv=>whnf)
 refine aK (xE _ _ _ _ _ _ _ hr ok hc) ?_;conv=>whnf
 exact⟨rfl,rfl⟩
theorem sH (h0 h:Heap) (bs bm bf off:Nat) (u:aO) (m:cL) (fs:List bQ) (f:bQ) (M:bM) (B:List Nat) (x:Vl) (k:Int) (hS:lB h0 h bs bm bf off u m fs f M B) (ok:cI u.J)
  (hx:0<=x.n/\x.n<=M.objs.length) (hl:M.objs.length<=1000) (hc:0 < x.n->(aF M.objs x.n).cls < u.J.length) :
  cZ prog 189 [.pointer (some ⟨bs,0,none⟩),.agg #[.bool x.ref,.int .i64 x.n],.int .i64 k] h λo h'=>h.le h'/\match o with
   | .ret v=>0 < x.n/\up u.J (aF M.objs x.n).cls k=true/\∃ bo c,rd h' bm 0=some (.slice (some ⟨bo,0,none⟩) M.objs.length c)/\v=.pointer (some ⟨bo,0+(x.n-1).toNat*2,none⟩)
   | .lY c=>(0 < x.n/\up u.J (aF M.objs x.n).cls k=false/\c=j5 0)\/(x.n=0/\c=j5 2):=by
 refine outs au func189 XK XL rfl ?_;conv=>whnf
 refine new (λb1 gL=>?_);conv=>whnf
 refine new (λb2 fO=>?_);have l1:=Heap.aP (z_ h) gL (o:=.cells [Value.pointer (some ⟨bs,0,none⟩)].toArray 144);have l2:=Heap.aP (z_ _) fO (o:=.cells [Value.int .i64 k].toArray 3);have ne:b1≠b2:=by rintro rfl;simp[Heap.set]at fO
 have HL:=y_ l1 l2;have q1:rd ((h.set b1 (.cells [Value.pointer (some ⟨bs,0,none⟩)].toArray 144)).set b2 (.cells [Value.int .i64 k].toArray 3)) b1 0=some (.pointer (some ⟨bs,0,none⟩)):=by
  rw[nO ne,mU];rfl
 have q2:rd ((h.set b1 (.cells [Value.pointer (some ⟨bs,0,none⟩)].toArray 144)).set b2 (.cells [Value.int .i64 k].toArray 3)) b2 0=some (.int .i64 k):=by
  rw[mU];rfl
 have lN:=hS.mono HL;obtain⟨_,_,_,p,cc,q,d,hu,r9,_,_,_⟩:=lN.mp;have hcs:=(hu.le lN.ma.le).form;obtain⟨p',c',q',d',he,hcs,_⟩:=hcs;simp only[List.cons.injEq,Z_,true_and,and_true]at he;obtain⟨⟨rfl,rfl⟩,_⟩:=he;conv=>whnf
 generalize (h.set b1 (.cells [Value.pointer (some ⟨bs,0,none⟩)].toArray 144)).set b2 (.cells [Value.int .i64 k].toArray 3)=h2 at *;refine ld q1 ?_;conv=>whnf
 refine dK (Ct h0 h2 bs bm bf off u m fs f M B x _ _ (λc=>up u.J c k) lN (.inl ⟨rfl,_,_,rfl⟩) hx hl (λhp=>F8 h2 b1 b2 bs _ _ _ _ _ _ q1 q2 r9 hcs ok (hc hp))) ?_ ?_
 ·rintro v h' ⟨rfl,e1,e2,e3⟩;conv=>whnf
  exact⟨HL,e1,e2,e3⟩
 ·rintro c h' ⟨rfl,e1⟩;exact⟨HL,e1⟩
theorem F9 (h:Heap) (b1:Nat) (c k:Int) (r1:rd h b1 0=some (.int .i64 k)) :
  Pure prog 210 [.int .i64 c,.pointer (some ⟨b1,0,none⟩)] h (.bool (decide (c=if k=0 then -1 else -2))):=by
 refine iC au func210 Yn Yo rfl ?_;conv=>whnf
 refine ld r1 ?_;conv=>whnf
 refine aj (qd _ _) ?_;conv=>whnf
 exact⟨rfl,rfl⟩
theorem Eb (h:Heap) (c:Int):Pure prog 196 [.int .i64 c] h (.bool (decide (c < 0))):=by
 refine iC au func196 XZ X0 rfl ?_;conv=>whnf
 exact⟨rfl,rfl⟩
def qh (k:Int):Int:=if k=0 then -1 else -2
theorem AT (h0 h:Heap) (bs bm bf off:Nat) (u:aO) (m:cL) (fs:List bQ) (f:bQ) (M:bM) (B:List Nat) (x:Vl) (k n:Int) (hS:lB h0 h bs bm bf off u m fs f M B)
  (hx:0<=x.n/\x.n<=M.objs.length) (hl:M.objs.length<=1000) :
  cZ prog 197 [.pointer (some ⟨bs,0,none⟩),.agg #[.bool x.ref,.int .i64 x.n],.int .i64 k,.int .i64 n] h λo h'=>h.le h'/\match o with
   | .ret v=>0 < x.n/\(aF M.objs x.n).cls=qh k/\0<=n/\n < (aF M.objs x.n).aW.length/\∃ bo c bv cv nv,rd h' bm 0=some (.slice (some ⟨bo,0,none⟩) M.objs.length c)/\rd h' bo (0+(x.n-1).toNat*2+1)=some (.slice (some ⟨bv,0,none⟩) nv cv)/\v=.pointer (some ⟨bv,0+n.toNat*2,none⟩)
   | .lY c=>(0 < x.n/\(aF M.objs x.n).cls≠qh k/\c=j5 0)\/(x.n=0/\c=j5 2)\/(0 < x.n/\(aF M.objs x.n).cls=qh k/\¬(0<=n/\n < (aF M.objs x.n).aW.length)/\c=j5 3):=by
 refine outs au func197 X1 X2 rfl ?_;conv=>whnf
 refine new (λb1 gL=>?_);have l1:=Heap.aP (z_ h) gL (o:=.cells [Value.int .i64 k].toArray 3);have q1:rd (h.set b1 (.cells [Value.int .i64 k].toArray 3)) b1 0=some (.int .i64 k):=by
  rw[mU];rfl
 have lN:=hS.mono l1;conv=>whnf
 generalize h.set b1 (.cells [Value.int .i64 k].toArray 3)=h2 at *;refine dK (Ct h0 h2 bs bm bf off u m fs f M B x _ _ (λc=>decide (c=qh k)) lN (.inr (.inl ⟨rfl,_,rfl⟩)) hx hl (λhp=>F9 h2 b1 _ k q1)) ?_ ?_
 ·rintro v h' ⟨rfl,e1,e2,bo,c,e3,rfl⟩;have e2:=of_decide_eq_true e2;have ud:=lN.j6 e1 hx.2;obtain⟨bo',c',v,Bi,s1,s2,s3,ov,_⟩:=ud;rw[e3]at s1;simp only[v_,Z_,Addr.mk.injEq,and_true,true_and]at s1;obtain⟨rfl,rfl⟩:=s1;have ov0:=ov;obtain⟨pv,cv,rfl,NA⟩:=ov.form;have hlen:=eL bR (aF M.objs x.n).aW;conv=>whnf
  apply ax<;>intro g1;all_goals conv=>whnf
  ·exact⟨l1,.inr (.inr ⟨e1,e2,by omega,rfl⟩)⟩
  refine ld s3 ?_;conv=>whnf
  apply ax<;>intro g2;all_goals conv=>whnf
  ·exact⟨l1,.inr (.inr ⟨e1,e2,by omega,rfl⟩)⟩
  have hi:n.toNat < ((aF M.objs x.n).aW.map bR).length:=by omega
  have e:=ov0.nth hi;obtain⟨bv,Uk,_,_⟩:=e;refine ld s3 ?_;conv=>whnf
  refine aq ?_;conv=>whnf
  refine aG Uk ?_;conv=>whnf
  subst Uk;exact⟨l1,e1,e2,by omega,by omega,bo,c,bv,cv,_,e3,s3,rfl⟩
 ·rintro c h' ⟨rfl,e1⟩;refine⟨l1,?_⟩;rcases e1 with ⟨e1,e2,e3⟩|e1
  ·exact .inl ⟨e1,of_decide_eq_false e2,e3⟩
  ·exact .inr (.inl e1)
theorem OH (n:Int) (h:Heap) (hn:n=0\/n=1\/n=2\/n=3\/n=4\/n=5\/n=6):Pure prog 216 [.int .u64 1,.int .u64 n] h (.tuple #[.int .u64 0,.int .u64 n]):=by
 rcases hn with rfl|rfl|rfl|rfl|rfl|rfl|rfl;all_goals
  refine iC au func216 Yx Yy rfl ?_;conv=>whnf
  repeat' ((first|refine qZ ?_|refine iI rfl rfl (λw=>rfl) (λw=>rfl) ?_)<;>conv=>whnf)
  exact⟨rfl,rfl⟩
theorem IU (n:Int) (h:Heap) (hn:n=0\/n=1\/n=2\/n=3\/n=4\/n=5\/n=6):Pure prog 209 [.int .u64 1,.int .u64 n] h (.tuple #[.int .u64 0,.int .u64 n]):=by
 refine iC au func209 Yl Ym rfl ?_;conv=>whnf
 refine aj (OH n h hn) ?_;conv=>whnf
 exact⟨rfl,rfl⟩
theorem YU {k:IntKind} {x r:Int} {K:Int->Prop} (h:k.wrap x=r) (hk:K r):Ar k x K:=qZ (by rw[h];exact hk)
theorem wrap_u64 {x:Int} (h0:0<=x) (h1:x<=1000000):IntKind.u64.wrap x=x:=by
 simp[IntKind.wrap,IntKind.bits,IntKind.signed];omega
theorem Cu (a b:Nat):Nat.min a b=min a b:=rfl
theorem K7 (t n:Int) (v:Value) (h:Heap) (hr:HI h v [t]) (hn:0<=n/\n<=6) :
  bI prog 193 [v,.int .i64 n] h λv h'=>h.le h'/\∃ B,dR h' v (List.replicate n.toNat t) B/\∀ b∈B,h b=none:=by
 obtain⟨_,_,p,c,rfl,hc,RL⟩:=hr;have hrq:∃ b off,p=some ⟨b,off,none⟩/\fj h b off 1=some [.int .i64 t]:=by
  rcases RL with hx|⟨b,off,h1,h2⟩
  ·simp at hx
  ·exact⟨b,off,h1,by simpa [bN]using h2⟩
 obtain⟨b0,acj,rfl,hrq⟩:=hrq;refine bZ au func193 XV XW rfl ?_;conv=>whnf
 refine bH ?_;conv=>whnf
 refine YU (r:=1) (wrap_u64 (by simp) (by simp)) ?_;conv=>whnf
 refine YU (wrap_u64 (by omega) (by omega)) ?_;conv=>whnf
 refine aj (IU n h (by omega)) ?_;conv=>whnf
 refine bH ?_;conv=>whnf
 refine ah ?_;conv=>whnf
 refine ob ⟨rfl,by omega,by show(_:Int)*((8:Nat):Int)<=_;omega,by omega⟩ ?_;conv=>whnf
 refine new (λb hb=>?_);conv=>whnf
 have hle:h.le (h.set b (.cells (List.replicate n.toNat [Value.int .i64 0]).flatten.toArray 3)):=Heap.aP (z_ h) hb;have bA:(h.set b (.cells (List.replicate n.toNat [Value.int .i64 0]).flatten.toArray 3)) b=some (.cells (List.replicate n.toNat (Value.int .i64 0)).toArray 3 (0,0)):=by
  rw[List.flatten_replicate_singleton];simp[Heap.set]
 refine FT (vs:=List.replicate (min 1 n.toNat) (.int .i64 t)) au rfl rfl rfl rfl rfl (.inr ⟨b0,acj,rfl,?_⟩) bA (by simp;omega) ?_ ?_
 ·by_cases h0:n=0
  ·subst h0;rfl
  ·have h1:Nat.min (List.map bN [t]).length n.toNat=1:=by show min 1 n.toNat=1;omega
   have h2:min 1 n.toNat=1:=by omega
   rw[h1,h2];exact bK hle hrq
 ·have:=dS (List.replicate (min 1 n.toNat) t);rwa [List.map_replicate]at this
 have hcell:∀ k:Nat,k<=n.toNat->∀ m,m<=k->k+m<=n.toNat->eS (List.replicate k (Value.int .i64 t)++List.replicate (n.toNat-k) (Value.int .i64 0)) k (List.replicate m (.int .i64 t))=List.replicate (k+m) (Value.int .i64 t)++List.replicate (n.toNat-(k+m)) (Value.int .i64 0):=by
  intro k hk m hm hkm;have:=iK (List.replicate m (Value.int .i64 t)) (List.replicate k (Value.int .i64 t)) (List.replicate (n.toNat-k) (Value.int .i64 0)) (by simp;omega);rw[List.length_replicate]at this;rw[this];simp only[List.length_replicate,List.drop_replicate,List.replicate_append_replicate];congr 2
  omega
 have R6:eS (List.replicate n.toNat (Value.int .i64 0)) 0 (List.replicate (min 1 n.toNat) (.int .i64 t))=List.replicate (min 1 n.toNat) (Value.int .i64 t)++List.replicate (n.toNat-min 1 n.toNat) (Value.int .i64 0):=by
  have:=iK (List.replicate (min 1 n.toNat) (Value.int .i64 t)) [] (List.replicate n.toNat (Value.int .i64 0)) (by simp;omega);simpa [List.drop_replicate]using this
 rw[R6,set_set];have R7:((Nat.min (List.map bN [t]).length n.toNat:Nat):Int)=((min 1 n.toNat:Nat):Int):=by rw[Cu];simp
 rw[R7];conv=>whnf
 refine fh [7,8] [] (λk:Nat=>k<=n.toNat/\(0 < n->1<=k)) (λk=>n.toNat-k)
  (λk=>([.v (.slice (some ⟨b,0,none⟩) n.toNat n.toNat),.v (.int .i64 k)],[],h.set b (.cells (List.replicate k (Value.int .i64 t)++List.replicate (n.toNat-k) (Value.int .i64 0)).toArray 3))) (min 1 n.toNat) ⟨by omega,by omega⟩ rfl ?_
 rintro k ⟨hk,HF⟩;conv=>whnf
 apply ax<;>intro g;all_goals conv=>whnf
 ·have YV:k < n.toNat:=by omega
  have fO:(h.set b (.cells (List.replicate k (Value.int .i64 t)++List.replicate (n.toNat-k) (Value.int .i64 0)).toArray 3)) b=some (.cells (List.replicate k (Value.int .i64 t)++List.replicate (n.toNat-k) (Value.int .i64 0)).toArray 3 (0,0)):=by simp[Heap.set]
  refine aq ?_;conv=>whnf
  refine sub (λoa k1 k2=>?_);have hoa:oa=some ⟨b,k,none⟩:=by rw[k1 (by omega)];simp[mw]
  subst hoa;conv=>whnf
  refine aq ?_;conv=>whnf
  refine FT (vs:=List.replicate (min k (n.toNat-k)) (.int .i64 t)) au rfl rfl rfl rfl rfl (.inr ⟨b,0,rfl,?_⟩) fO (by simp;omega) ?_ ?_
  ·have h1:Nat.min (k:Int).toNat (n.toNat-(k:Int).toNat)=min k (n.toNat-k):=by rw[Cu];simp
   rw[h1];show fj _ b 0 (min k (n.toNat-k)*1)=_;rw[Nat.mul_one,bO fO _ _ (by simp;omega),List.drop_zero,List.take_append_of_le_length (by simp;omega),List.take_replicate];congr 2;omega
  ·have:=dS (List.replicate (min k (n.toNat-k)) t);rwa [List.map_replicate]at this
  rw[hcell k (by omega) _ (by omega) (by omega),set_set];have Ga:((Nat.min (k:Int).toNat (n.toNat-(k:Int).toNat):Nat):Int)=((min k (n.toNat-k):Nat):Int):=by rw[Cu,Int.toNat_natCast]
  rw[Ga];conv=>whnf
  refine ah ?_;conv=>whnf
  refine dm (k+min k (n.toNat-k)) ⟨by omega,by omega⟩ (by omega) rfl
 ·have YV:k=n.toNat:=by omega
  subst YV;refine⟨Heap.aP (z_ h) hb,[b],jC (t:=3) (λx hx=>by simp only[List.map_replicate]at hx;rw[List.eq_of_mem_replicate hx];rfl) (by simp) ?_,by simpa using hb⟩;simp[Heap.set,ek,List.map_replicate,bN]
theorem lB.grow {h0 h:Heap} {bs bm bf off:Nat} {u:aO} {m:cL} {fs:List bQ} {f:bQ} {M:bM} {B:List Nat} (hS:lB h0 h bs bm bf off u m fs f M B) (hl:M.objs.length<=1000) :
  ∃ t p c vf vs,h bm=some (.cells (ay (.slice p M.objs.length c) vf vs M).toArray t (0,0)) /\
   ∀ {bytes:Nat} {zero:List Value} {el:TypeId} {m':Nat} (a:Ob) (Bv:List Nat) (y:List Value) (K:Value->Heap->Prop),mA h y a Bv->Nd Bv->(∀ b∈Bv,b ∉ bm::B/\b≠bs/\h0 b=none)->m'=1->y.length=2->eu y=true->zero.length=2->bytes<=1000 ->
    (∀ p' c' h2,h2 bm=h bm->h2 bs=h bs->h0.le h2->(∃ B',lB h0 (h2.set bm (.cells (ay (.slice p' (M.objs.length+1) c') vf vs M).toArray t (0,0))) bs bm bf off u m fs f {M with objs:=M.objs++[a]} B' /\
     Ev h (h2.set bm (.cells (ay (.slice p' (M.objs.length+1) c') vf vs M).toArray t (0,0))) ((bm::B)++Bv) (bm::B'))->K (.slice p' (M.objs.length+1) c') h2)->App bytes 2 zero el h p M.objs.length c m' y K:=by
 obtain⟨hM,hf,⟨jL,c0,hr⟩,⟨ms,us,ts,eB,hu,hm⟩,fK⟩:=hS;have nd:=hM.nd;have fW:=hM.in;have hle:=hM.le;have gz:=hM.fr;obtain⟨t,vo,vf,vs,B1,B2,B3,hb,h1,h2,h3,rfl,fe⟩:=hM.whole;obtain⟨p,c,rfl,hc⟩:=h1.form;refine⟨t,p,c,vf,vs,by simpa using hb,?_⟩;intro bytes zero el m' a Bv y K k1 k2 k3 k4 k5 k6 k7 k8 k9;have hv:∀ b∈Bv,b ∉ B1/\b ∉ B2/\b ∉ B3/\b≠bm/\b≠bs:=by
  intro b bA;have:=k3 b bA;simp at this;grind
 have hB:∀ b∈B1,b ∉ B2/\b ∉ B3/\b≠bm/\b≠bs:=by
  intro b bA;have hp:=W_.2 bA;have hn:=nd b;simp only[Y_,X_]at hn;refine⟨λhx=>?_,λhx=>?_,?_,?_⟩
  ·have:=W_.2 hx;omega
  ·have:=W_.2 hx;omega
  ·rintro rfl;simp at hn;omega
  ·rintro rfl;exact fK (by simp[bA])
 have iR:bm ∉ B1++B2++B3:=by
  intro hx;have:=W_.2 hx;have hn:=nd bm;simp only[X_,beq_self_eq_true,if_true]at hn;omega
 have Gc:Nd (B1++B2++B3):=nd.less λa=>by simp only[X_];omega
 have Gd:Nd (B1++Bv):=by
  have:=Nd.swap (A:=B1) (X:=B2++B3) (X':=Bv) (Gc.perm λa=>by simp only[Y_];omega) k2 (λb bA=>.inr (hv b bA).1);exact this
 refine oQ jP Ad (h0:=h0) h1 k1 Gd (λb bA=>?_) hle k4 k5 k6 k7 (by have:=Nat.mul_le_mul (show M.objs.length+1<=1001 by omega) k8;omega) (by omega) ?_
 ·rcases u_.1 bA with bA|bA
  ·exact gz b (by simp[bA])
  ·exact(k3 b bA).2.2
 intro v' jx jz g1 g2 g3 g4 g5;obtain⟨p',c',rfl,_⟩:=g2.form;have hlen:(M.objs++[a]).length=M.objs.length+1:=by simp
 rw[hlen]at g2 ⊢;have same:∀ b,b ∉ B1->b ∉ Bv->h b≠none->jx b=h b:=λb n1 n2 n3=>g5.iB b n3 (by simp[n1,n2]);have e1:jx bm=h bm:=same bm (λhx=>iR (by simp[hx])) (λhx=>(hv _ hx).2.2.2.1 rfl) (by rw[hb];simp);have e2:jx bs=h bs:=same bs (λhx=>fK (by simp[hx])) (λhx=>(hv _ hx).2.2.2.2 rfl) (by rw[eB];simp);refine k9 p' c' jx e1 e2 g1 ?_;have R8:bm ∉ jz:=by
  intro hx;rcases g5.new bm hx with hy|hy
  ·rcases u_.1 hy with hy|hy
   ·exact iR (by simp[hy])
   ·exact(hv _ hy).2.2.2.1 rfl
  ·rw[hb]at hy;cases hy
 have j7:∀ C:List Nat,(∀ b∈C,b≠bm/\b ∉ B1/\b ∉ Bv)->cR h (jx.set bm (.cells (ay (.slice p' (M.objs.length+1) c') vf vs M).toArray t (0,0))) C:=by
  intro C hC b bA o ho;have:=hC b bA;simp only[Heap.set,this.1,if_false];rw[same b this.2.1 this.2.2 (by rw[ho];simp)];exact ho
 have d2:∀ b∈B2,b≠bm/\b ∉ B1/\b ∉ Bv:=λb bA=>⟨λhx=>iR (by simp[<-hx,bA]),λhx=>(hB b hx).1 bA,λhx=>(hv b hx).2.1 bA⟩
 have d3:∀ b∈B3,b≠bm/\b ∉ B1/\b ∉ Bv:=λb bA=>⟨λhx=>iR (by simp[<-hx,bA]),λhx=>(hB b hx).2.1 bA,λhx=>(hv b hx).2.2.1 bA⟩
 have Fm:Ev h (jx.set bm (.cells (ay (.slice p' (M.objs.length+1) c') vf vs M).toArray t (0,0))) ((bm::(B1++B2++B3))++Bv) (bm::(jz++B2++B3)):=by
  refine⟨λb bA hn=>?_,λb bA=>?_⟩
  ·have:b≠bm:=λhx=>hn (by simp[hx]);simp only[Heap.set,this,if_false];exact same b (λhx=>hn (by simp[hx])) (λhx=>hn (by simp[hx])) bA
  ·have:b∈jz\/b∈bm::(B2++B3):=by simp at bA ⊢;grind
   rcases this with hx|hx
   ·exact(g5.new b hx).imp (λhy=>by simp at hy ⊢;grind) id
   ·exact .inl (by simp at hx ⊢;grind)
 have Ge:Nd (bm::(jz++B2++B3)):=by
  have:=Nd.swap (A:=bm::(B2++B3)) (X:=B1) (X':=jz) (nd.perm λa=>by simp only[Y_,X_];omega) g3 (λb bA=>?_)
  ·exact this.perm λa=>by simp only[Y_,X_];omega
  ·rcases g5.new b bA with hx|hx
   ·rcases u_.1 hx with hx|hx
    ·exact .inl hx
    ·have:=hv b hx;exact .inr (by simp;grind)
   ·refine .inr λhy=>?_;obtain⟨o,ho⟩:=fW b (by simp at hy ⊢;grind);rw[hx]at ho;cases ho
 have K3:gV h0 (jx.set bm (.cells (ay (.slice p' (M.objs.length+1) c') vf vs M).toArray t (0,0))) bm [] [] {M with objs:=M.objs++[a]} (jz++B2++B3):=by
  have ack:h0.le (jx.set bm (.cells (ay (.slice p' (M.objs.length+1) c') vf vs M).toArray t (0,0))):=Heap.aP g1 (gz bm (by simp));refine⟨ack,⟨ay (.slice p' (M.objs.length+1) c') vf vs M,t,by simp[Heap.set],_,vf,vs,jz,B2,B3,rfl,?_,?_,?_,rfl⟩,Ge,?_⟩
  ·refine g2.aJ jP λb bA o ho=>?_;have:b≠bm:=by rintro rfl;exact R8 bA
   simp only[Heap.set,this,if_false];exact ho
  ·exact h2.aJ mY (j7 B2 d2)
  ·exact h3.aJ (j7 B3 d3)
  ·intro b bA;have:b∈jz\/b∈bm::(B1++B2++B3):=by simp at bA ⊢;grind
   rcases this with hx|hx
   ·exact g4 b hx
   ·exact gz b hx
 refine⟨jz++B2++B3,⟨K3,hf,⟨jL,c0,?_⟩,⟨ms,us,ts,?_,hu,hm⟩,?_⟩,Fm⟩
 ·have e3:rd h bm 1=some vf:=bE hb (i:=1) (by simp) rfl;rw[hr]at e3;have e4:rd (jx.set bm (.cells (ay (.slice p' (M.objs.length+1) c') vf vs M).toArray t (0,0))) bm 1=some vf:=by rw[mU];rfl
  rw[e4,<-e3]
 ·have:bs≠bm:=λhx=>fK (by simp[hx]);simp only[Heap.set,this,if_false];rw[e2];exact eB
 ·intro hx;rcases Fm.new bs hx with hy|hy
  ·rcases u_.1 hy with hy|hy
   ·exact fK hy
   ·exact(hv _ hy).2.2.2.2 rfl
  ·rw[eB]at hy;cases hy
theorem nQ (n:Int) (h:Heap):Pure prog 122 [.int .i64 n] h (.agg #[.bool true,.int .i64 n]):=by
 refine iC au func122 VV VW rfl ?_;conv=>whnf
 exact⟨rfl,rfl⟩
def nothing (t:Int):Vl:=⟨!decide (t=1),0⟩
theorem HM (h0 h:Heap) (bs bm bf off:Nat) (u:aO) (m:cL) (fs:List bQ) (f:bQ) (M:bM) (B:List Nat) (k:Int) (types:List Int) (vt:Value) (Bt:List Nat) (hS:lB h0 h bs bm bf off u m fs f M B)
  (ot:dR h vt types Bt) (lZ:types.length<=1000) (hl:M.objs.length<=1000) :
  cZ prog 191 [.pointer (some ⟨bs,0,none⟩),.int .i64 k,vt] h λo h'=>match o with
   | .ret _=>f.stack.length < 4/\∃ B',lB h0 h' bs bm bf off u m fs {f with stack:=f.stack++[⟨true,M.objs.length+1⟩]} {M with objs:=M.objs++[⟨k,types.map nothing⟩],ag:=fs++[{f with stack:=f.stack++[⟨true,M.objs.length+1⟩]}]} B'/\Ev h h' (bm::B) (bm::B')
   | .lY c=>4<=f.stack.length/\c=j5 0/\Pn h0 bm h':=by
 obtain⟨pt,ct,rfl,_⟩:=ot.form;have gE:=eL bN types;have fW:=hS.ma.in;refine outs au func191 XP XQ rfl ?_;conv=>whnf
 refine fh [0,1,6,9,10,11] [] (λs:Nat × Heap × Option Addr × Nat × List Nat=>s.1<=types.length/\h.le s.2.1/\cj s.2.1 (.slice s.2.2.1 s.1 s.2.2.2.1) ((types.take s.1).map nothing) s.2.2.2.2/\∀ b∈s.2.2.2.2,h b=none) (λs=>types.length-s.1)
  (λs=>([.v (.pointer (some ⟨bs,0,none⟩)),.v (.int .i64 k),.v (.slice s.2.2.1 s.1 s.2.2.2.1),.v (.slice pt (types.map bN).length ct),.v (.int .i64 (types.map bN).length),.v (.int .i64 s.1)],[],s.2.1))
  (0,h,none,0,[]) ⟨by omega,z_ h,⟨by simp,.inl ⟨rfl,by simp,rfl⟩⟩,by simp⟩ rfl ?_
 rintro⟨i,h1,p,c,Bv⟩ ⟨hi,l1,ov,nv⟩;simp only at hi l1 ov nv ⊢;conv=>whnf
 apply ax<;>intro g;all_goals conv=>whnf
 ·have bV:i < types.length:=by omega
  have e:=(show dR h1 (.slice pt (types.map bN).length ct) types Bt from ot.aJ (cR.of_le l1 _)).nth (i:=i) (by simpa using bV);obtain⟨b,hq,e1,_⟩:=e;rw[List.getElem_map]at e1;have e2:rd h1 b (0+i*1)=some (.int .i64 types[i]):=by simpa using aE e1 (i:=0) rfl
  refine aq ?_;conv=>whnf
  refine aG hq ?_;conv=>whnf
  refine ld e2 ?_;conv=>whnf
  refine aj (D7 _ _) ?_;conv=>whnf
  have dj:((types.take i).map nothing).length=i:=by simp;omega
  refine dA (h0:=h) (ys:=[bR (nothing types[i])]) ov nv l1 rfl rfl (by simp[bR]) rfl rfl (by simp;omega) (by simp;omega) ?_;intro v' h2 B2 g1 g2 g3 g4 g5;have As:cj h2 v' ((types.take (i+1)).map nothing) B2:=by
   unfold cj;rw[<-List.take_append_getElem bV,List.map_append,List.map_append];exact g2
  obtain⟨p',c',rfl,_⟩:=As.form;have Cv:(((types.take (i+1)).map nothing).map bR).length=i+1:=by simp;omega
  rw[Cv]at As ⊢;conv=>whnf
  refine ah ?_;conv=>whnf
  exact dm (i+1,h2,p',c',B2) ⟨by omega,g1,As,g3⟩ (by simp only;omega) rfl
 ·have mB:i=types.length:=by omega
  subst mB;rw[List.take_length]at ov;have gq:=hS.mono l1;obtain⟨r1,r2,_,_⟩:=gq.mp;obtain⟨t,po,co,vf,vs,hb,grow⟩:=gq.grow hl;have r3:rd h1 bm 0=some (.slice po M.objs.length co):=bJ hb rfl;have ue:∀ b∈Bv,b ∉ bm::B/\b≠bs/\h0 b=none:=by
   intro b bA;have hn:=nv b bA;refine⟨λhx=>?_,?_,?_⟩
   ·obtain⟨o,ho⟩:=fW b hx;rw[hn]at ho;cases ho
   ·rintro rfl;have:=hS.mp.1;unfold rd at this;rw[hn]at this;cases this
   ·cases hh:h0 b with
    | none=>rfl
    | some o=>rw[hS.ma.le b o hh]at hn;cases hn
  repeat' ((first|exact trivial|refine ld r2 ?_|refine ld r3 ?_|apply T_)<;>conv=>whnf)
  all_goals
   refine grow ⟨k,types.map nothing⟩ Bv _ _ ⟨_,rfl,ov⟩ ov.nd ue rfl rfl rfl rfl (by simp) ?_;rintro p' c' h2 e1 e2 e3 ⟨B',NB,sY⟩;have yV:rd h2 bs 11=some (.pointer (some ⟨bm,0,none⟩)):=by unfold rd at r2 ⊢;rw[e2];exact r2
   have fO:=e1.trans hb;conv=>whnf
   (try refine ld yV ?_)
   conv=>whnf
   have ko:eS (ay (.slice po M.objs.length co) vf vs M) 0 [.slice p' (M.objs.length+1) c']=ay (.slice p' (M.objs.length+1) c') vf vs M:=rfl;have q1:=NB.mp.2.1;have q2:rd (h2.set bm (.cells (ay (.slice p' (M.objs.length+1) c') vf vs M).toArray t (0,0))) bm 0=some (.slice p' (M.objs.length+1) c'):=by rw[mU];rfl
   refine st fO (by simp[ay]) ?_;rw[ko];generalize h2.set bm (.cells (ay (.slice p' (M.objs.length+1) c') vf vs M).toArray t (0,0))=h3 at *;conv=>whnf
   refine ld q1 ?_;conv=>whnf
   refine ld q2 ?_;conv=>whnf
   refine aj (nQ _ _) ?_;conv=>whnf
   have ev:Ev h h3 (bm::B) (bm::B') :=
    Ev.trans (Ev.of_le l1 ((bm::B)++Bv) (λb bA=>(u_.1 bA).imp id (nv b))) sY
   refine dK (qg h0 h3 bs bm bf off u m fs f _ B' ⟨true,((M.objs.length+1:Nat):Int)⟩ NB) ?_ ?_
   ·rintro v h' ⟨k1,B2,k2,k3⟩;conv=>whnf
    have hc:(⟨true,((M.objs.length+1:Nat):Int)⟩:Vl)=⟨true,M.objs.length+1⟩:=by simp
    rw[hc]at k2;exact⟨k1,B2,k2,ev.trans k3⟩
   ·rintro c h' ⟨k1,k2,k3⟩;exact⟨k1,k2,k3⟩
def cU:Vl:=⟨false,0⟩
abbrev ya:=Except Int (List Ob × bQ)
def dH (objs:List Ob) (f:bQ) (v:Vl):ya:=if f.stack.length < 4 then .ok (objs,{f with stack:=f.stack++[v]})else .error 0
def sZ (k:Int) (types:List Int) (objs:List Ob) (f:bQ):ya:=dH (objs++[⟨k,types.map nothing⟩]) f ⟨true,objs.length+1⟩
def eE (objs:List Ob) (n:Int) (so:Bool):Except Int Ob:=if 0 < n/\so=false then .error 0 else if n=0 then .error 2 else .ok (aF objs n)
def putAt (l:List Vl) (i:Int) (v:Vl):List Vl:=l.set i.toNat v
def ij (objs:List Ob) (n:Int) (aW:List Vl):List Ob:=objs.set (n-1).toNat {aF objs n with aW:=aW}
def qi (objs:List Ob) (x:Vl) (k n:Int):Except Int Ob :=
 match eE objs x.n (decide ((aF objs x.n).cls=qh k))with
 | .error e=>.error e
 | .ok o=>if 0<=n/\n < o.aW.length then .ok o else .error 3
def bD (u:aO) (x:ez) (aR:List Vl) (objs:List Ob) (f:bQ):ya :=
 let a:=aR.getD 0 cU
 let b:=aR.getD 1 cU
 let c:=aR.getD 2 cU
 if x.kind=12 then sZ x.a (dw u.J x.a) objs f
 else if x.kind=13 then (if 0<=a.n/\a.n<=6 then sZ (qh x.a) (List.replicate a.n.toNat (if x.a=0 then 1 else 8)) objs f else .error 4)
 else if x.kind=14 then (match eE objs a.n (decide ((aF objs a.n).cls < 0))with
  | .error e=>.error e
  | .ok o=>dH objs f ⟨false,o.aW.length⟩)
 else if x.kind=15 then (match qi objs a x.a b.n with
  | .error e=>.error e
  | .ok o=>dH objs f (o.aW.getD b.n.toNat cU))
 else if x.kind=16 then (match qi objs a x.a b.n with
  | .error e=>.error e
  | .ok o=>.ok (ij objs a.n (putAt o.aW b.n c),f))
 else if x.kind=17 then (match eE objs a.n (up u.J (aF objs a.n).cls x.a)with
  | .error e=>.error e
  | .ok o=>dH objs f (o.aW.getD x.b.toNat cU))
 else if x.kind=18 then (match eE objs a.n (up u.J (aF objs a.n).cls x.a)with
  | .error e=>.error e
  | .ok o=>.ok (ij objs a.n (putAt o.aW x.b b),f))
 else if x.kind=19 then (if 0 < a.n/\iy u.J (typeOf (aF objs a.n).cls) (8+x.a)=false then .error 5 else dH objs f a)
 else .ok (objs,f)
theorem gR {objs:List Ob} {n:Int} {so:Bool} (h1:0 < n) (h2:so=true):eE objs n so=.ok (aF objs n):=by
 subst h2;simp[eE];omega
theorem gJ {objs:List Ob} {n:Int} {so:Bool} (h1:0 < n) (h2:so=false):eE objs n so=.error 0:=by
 subst h2;simp[eE,h1]
theorem gK {objs:List Ob} {n:Int} {so:Bool} (h1:n=0):eE objs n so=.error 2:=by
 subst h1;simp[eE]
theorem Cw {objs:List Ob} {x:Vl} {k n:Int} (h1:0 < x.n) (h2:(aF objs x.n).cls=qh k) (h3:0<=n/\n < (aF objs x.n).aW.length):qi objs x k n=.ok (aF objs x.n):=by
 unfold qi;rw[gR h1 (by simp[h2])];simp[h3]
theorem yX {objs:List Ob} {x:Vl} {k n:Int} (h1:0 < x.n) (h2:(aF objs x.n).cls≠qh k):qi objs x k n=.error 0:=by
 unfold qi;rw[gJ h1 (by simp[h2])]
theorem yY {objs:List Ob} {x:Vl} {k n:Int} (h1:x.n=0):qi objs x k n=.error 2:=by
 unfold qi;rw[gK h1]
theorem uf {objs:List Ob} {x:Vl} {k n:Int} (h1:0 < x.n) (h2:(aF objs x.n).cls=qh k) (h3:¬(0<=n/\n < (aF objs x.n).aW.length)):qi objs x k n=.error 3:=by
 unfold qi;rw[gR h1 (by simp[h2])];simp only;rw[if_neg h3]
theorem IV (h:Heap) (bo n c:Nat) (k cls:Int) (hr:rd h bo (0+(k-1).toNat*2)=some (.int .i64 cls)) (hk:0 < k/\k<=n) (hn:n<=1000) (hc : -2<=cls/\cls<=900) :
  Pure prog 199 [.slice (some ⟨bo,0,none⟩) n c,.agg #[.bool true,.int .i64 k]] h (.int .i64 (typeOf cls)):=by
 refine iC au func199 X5 X6 rfl ?_;conv=>whnf
 refine bH ?_;conv=>whnf
 repeat' ((first|refine ld hr ?_|refine aq ?_|refine ah ?_|refine ptr ?_)<;>conv=>whnf)
 refine aj (IP _ _ (by omega)) ?_;conv=>whnf
 exact⟨rfl,rfl⟩
theorem m4 {pre x x' post:List Value} {n:Nat} (hn:n=pre.length) (hl:x'.length=x.length):eS (pre++x++post) n x'=pre++x'++post:=by
 subst hn;rw[List.append_assoc,iK x' pre (x++post) (by simp;omega),hl,List.drop_left]
def qD (u:aO) (x:ez) (aR:List Vl) (n:Nat):Prop :=
 (x.kind=13->∃ a,aR=[a])/\(x.kind=14->∃ a,aR=[a]/\a.ref=true)/\(x.kind=15->∃ a b,aR=[a,b]/\a.ref=true)/\(x.kind=16->∃ a b c,aR=[a,b,c]/\a.ref=true) /\
  (x.kind=17->∃ a,aR=[a]/\a.ref=true)/\(x.kind=18->∃ a b,aR=[a,b]/\a.ref=true)/\(x.kind=19->∃ a,aR=[a]/\a.ref=true)/\∀ v∈aR,v.ref=true->0<=v.n/\v.n<=n
def K8 (u:aO) (objs:List Ob):Prop:=∀ o∈objs,(-2<=o.cls/\o.cls < u.J.length)/\(0<=o.cls->o.aW.length=(dw u.J o.cls).length)
theorem vk {cs:List eD} (ok:cI cs):∀(k:Nat) {a b:Int},a.toNat < k->a < cs.length->up cs a b=true->(dw cs b).length<=(dw cs a).length
 | 0,a,b,h,_,_=>by omega
 | k+1,a,b,h,hl,hu=>by
  by_cases h0:0<=a
  ·rw[iT ok h0 hl]at hu;by_cases Qt:a=b
   ·subst Qt;exact Nat.le_refl _
   ·have hs:=ok.bU h0 hl;simp only[Qt,decide_false,Bool.false_or]at hu;by_cases hz:0 < a
    ·have:=vk ok k (a:=bG cs a) (b:=b) (by omega) (by omega) hu;rw[mI ok hz hl,U_];omega
    ·rw[rz (by omega)]at hu;cases hu
  ·rw[rz (by omega)]at hu;cases hu
theorem cr.put {h:Heap} {p:Option Addr} {n c:Nat} {l:List Vl} {B:List Nat} (ho:cj h (.slice p n c) l B) {i:Nat} (hi:i < l.length) :
  ∃ b pre x post t,p=some ⟨b,0,none⟩/\n=l.length/\h b=some (.cells (pre++x++post).toArray t (0,0))/\pre.length=i*2/\x=bR l[i]/\B=[b] /\
   ∀ h' v,h' b=some (.cells (pre++bR v++post).toArray t (0,0))->cj h' (.slice p n c) (l.set i v) B:=by
 have hm:l.map bR=(l.take i).map bR++bR l[i]::(l.drop (i+1)).map bR:=by
  have:=congrArg (List.map bR) (vh l hi);simpa only[List.map_append,List.map_cons]using this
 unfold cj at ho;rw[hm]at ho;obtain⟨b,c',pre,post,t,he,hb,fV,tI,hB,fe⟩:=ho.at;simp only[Z_]at he;obtain⟨rfl,rfl,rfl⟩:=he;refine⟨b,pre,bR l[i],post,t,rfl,?_,hb,?_,rfl,hB,λh' v bA=>?_⟩
 ·simp;omega
 ·rw[fV];simp;omega
 ·have:=fe h' (bR v) bA rfl;unfold cj;rw[List.set_eq_take_append_cons_drop,if_pos hi,List.map_append,List.map_cons];exact this
theorem dh (h:Heap) (b:Nat) (o:Obj):(h.set b o) b=some o:=by simp[Heap.set]
theorem ec {h:Heap} {cs:List Value} {t:TypeId} {K:Nat->Heap->Prop} (jU:List Value) (hcs:cs=jU) (hk:∀ b h1,h b=none->h1=h.set b (.cells jU.toArray t)->h.le h1->h1 b=some (.cells jU.toArray t (0,0))->K b h1):JQ h cs t K:=by
 subst hcs;exact new λb hb=>hk b _ hb rfl (Heap.aP (z_ h) hb) (dh _ _ _)
def OI (h0 h:Heap) (bs bm bf off:Nat) (u:aO) (m:cL) (fs:List bQ) (M:bM) (B:List Nat) (r:ya):Out->Heap->Prop:=λo h'=>match o with
 | .ret _=>∃ QE f',r=.ok (QE,f')/\∃ B',lB h0 h' bs bm bf off u m fs f' {M with objs:=QE,ag:=fs++[f']} B'/\Ev h h' (bm::B) (bm::B')
 | .lY c=>∃ k,r=.error k/\c=j5 k/\Pn h0 bm h'
theorem Cx {h0 h h1:Heap} {bs bm bf off:Nat} {u:aO} {m:cL} {fs:List bQ} {f:bQ} {M:bM} {B B1:List Nat} (x:Vl) (hS:lB h0 h bs bm bf off u m fs f M B) (ev:Ev h1 h (bm::B1) (bm::B)) :
  cZ prog 159 [.pointer (some ⟨bs,0,none⟩),.agg #[.bool x.ref,.int .i64 x.n]] h (OI h0 h1 bs bm bf off u m fs M B1 (dH M.objs f x)):=by
 refine(qg h0 h bs bm bf off u m fs f M B x hS).mono λo h' hh=>?_;cases o with
 | ret v =>
  obtain⟨k1,B',k2,k3⟩:=hh;exact⟨M.objs,{f with stack:=f.stack++[x]},by simp[dH,k1],B',k2,ev.trans k3⟩
 | lY c =>
  obtain⟨k1,k2,k3⟩:=hh;exact⟨0,by simp[dH];omega,k2,k3⟩
theorem cr.two {h:Heap} {p:Option Addr} {n c:Nat} {l:List Vl} {B:List Nat} (ho:cj h (.slice p n c) l B) {i:Nat} (hi:i < l.length):∃ b,p=some ⟨b,0,none⟩/\fj h b (0+i*2) 2=some (bR l[i])/\rd h b (0+i*2+1)=some (.int .i64 l[i].n)/\B=[b]/\n=l.length:=by
 obtain⟨_,_,he,_⟩:=ho.form;simp only[Z_]at he;obtain⟨b,h1,h2,h3⟩:=ho.nth (i:=i) (by simpa using hi);rw[List.getElem_map]at h2;exact⟨b,h1,h2,aE h2 (i:=1) rfl,h3,by have:=he.2.1;simpa using this⟩
theorem cr.all {h:Heap} {p:Option Addr} {n c:Nat} {l:List Vl} {B:List Nat} (ho:cj h (.slice p n c) l B) (cH:0 < l.length):∃ b,p=some ⟨b,0,none⟩/\n=l.length/\∀ i (hi:i < l.length),fj h b (0+i*2) 2=some (bR l[i])/\rd h b (0+i*2+1)=some (.int .i64 l[i].n):=by
 obtain⟨b,h1,_,_,hB,hn⟩:=ho.two cH;refine⟨b,h1,hn,λi hi=>?_⟩;obtain⟨b',F3,jx,h3',_⟩:=ho.two hi;rw[h1]at F3;simp only[v_,Addr.mk.injEq,and_true]at F3;subst F3;exact⟨jx,h3'⟩
theorem lB.at {h0 h:Heap} {bs bm bf off:Nat} {u:aO} {m:cL} {fs:List bQ} {f:bQ} {M:bM} {B:List Nat} (hS:lB h0 h bs bm bf off u m fs f M B) {n:Int} (h1:0 < n) (h2:n<=M.objs.length) {bo c:Nat} (hr:rd h bm 0=some (.slice (some ⟨bo,0,none⟩) M.objs.length c)) :
  ∃ p k c' Bi,rd h bo (0+(n-1).toNat*2+1)=some (.slice p k c')/\cj h (.slice p k c') (aF M.objs n).aW Bi/\k=(aF M.objs n).aW.length /\
   ∀ h' fX,cj h' (.slice p k c') fX Bi->(∀ b,b ∉ Bi->h b≠none->h' b=h b)->∃ B',lB h0 h' bs bm bf off u m fs f {M with objs:=ij M.objs n fX } B'/\Ev h h' (bm::B) (bm::B'):=by
 obtain⟨bo',c',v,Bi,s1,s2,s3,ov,fe⟩:=hS.j6 h1 h2;rw[hr]at s1;simp only[v_,Z_,Addr.mk.injEq,and_true,true_and]at s1;obtain⟨rfl,rfl⟩:=s1;obtain⟨pv,cv,rfl,NA⟩:=ov.form;exact⟨pv,_,cv,Bi,s3,ov,by simp,fe⟩
theorem j8 {l:List Ob} {n:Int} (h1:0 < n) (h2:n<=l.length):aF l n∈l:=by
 have hi:(n-1).toNat < l.length:=by omega
 rw[vj hi (by omega)];exact x_ _
theorem lO {cs:List eD} {a b:Int} (h:up cs a b=true):0<=a:=by
 rcases Int.lt_or_le a 0 with h0|h0
 ·rw[rz h0]at h;cases h
 ·exact h0
theorem sI {l:List Vl} {i:Nat} (hi:i < l.length):l.getD i cU=l[i]:=by simp[hi]
theorem iL (h0 h:Heap) (bs bm bf off:Nat) (u:aO) (m:cL) (fs:List bQ) (f:bQ) (M:bM) (B:List Nat) (x:ez) (aR:List Vl) (vt:Value) (Bt:List Nat) (hS:lB h0 h bs bm bf off u m fs f M B)
  (ot:cj h vt aR Bt) (jV:∀ b∈Bt,b ∉ bm::B/\b≠bs) (ok:cI u.J) (hk:12<=x.kind/\x.kind<=19) (hl:M.objs.length<=900) (ud:K8 u M.objs) (ht:qD u x aR M.objs.length)
  (lI:x.kind=12\/x.kind=17\/x.kind=18\/x.kind=19->0<=x.a/\x.a < u.J.length) (NC:x.kind=13->x.a=0\/x.a=1) (pI:x.kind=17\/x.kind=18->0<=x.b/\x.b < (dw u.J x.a).length) :
  cZ prog 161 [.pointer (some ⟨bs,0,none⟩),.agg #[.int .i64 x.kind,.int .i64 x.a,.int .i64 x.b],vt] h (OI h0 h bs bm bf off u m fs M B (bD u x aR M.objs f)):=by
 obtain⟨kind,a,b⟩:=x;simp only at hk lI NC pI ⊢;obtain⟨t13,t14,t15,t16,t17,t18,t19,tr⟩:=ht;simp only at t13 t14 t15 t16 t17 t18 t19;obtain⟨pt,ct,rfl,_⟩:=ot.form;have hS0:=hS;obtain⟨r1,r2,_,p,cc,q,d,hu,r9,iM,R9,_⟩:=hS.mp;have D6:=hu.le hS.ma.le;have hcs:fP h (.slice p u.J.length cc) u.J:=by
  obtain⟨p',c',q',d',he,hcs,_⟩:=D6.form;simp only[List.cons.injEq,Z_,true_and,and_true]at he;obtain⟨⟨rfl,rfl⟩,_⟩:=he;exact hcs
 have YW:=Ev.refl h (bm::B);have DA:kind=12\/kind=13\/kind=14\/kind=15\/kind=16\/kind=17\/kind=18\/kind=19:=by omega
 rcases DA with rfl|rfl|rfl|rfl|rfl|rfl|rfl|rfl
 ·
  have hc:=lI (.inl rfl);refine outs au func161 Ck xz rfl ?_;conv=>whnf
  repeat' ((first|refine ld r9 ?_|refine aq ?_|refine ah ?_|refine ptr ?_)<;>conv=>whnf)
  refine cX (kU _ _ _ _ _ _ _ hcs ok hc.1 hc.2 (Nat.lt_succ_self _)) ?_;rintro v h1 ⟨l1,Bc,oc,nc⟩;refine⟨l1,?_⟩;conv=>whnf
  refine dK (HM h0 h1 bs bm bf off u m fs f M B a (dw u.J a) v Bc (hS.mono l1) oc (by have:=eH ok hc.2;omega) (by omega)) ?_ ?_
  ·rintro v h' ⟨k1,B',k2,k3⟩;conv=>whnf
   refine⟨_,_,by simp[bD,sZ,dH,k1]<;>exact⟨rfl,rfl⟩,B',k2,(Ev.of_le l1 (bm::B) (λb hb=>.inl hb)).trans k3⟩
  ·rintro c h' ⟨k1,k2,k3⟩;exact⟨0,by simp[bD,sZ,dH];omega,k2,k3⟩
 ·
  obtain⟨v0,rfl⟩:=t13 rfl;have hi0:0 < [v0].length:=by simp
  obtain⟨b0,qL,n0,q0,_,_⟩:=ot.two hi0;simp only[List.getElem_cons_zero]at n0 q0;have ha:=NC rfl;refine outs au func161 Ck xz rfl ?_;conv=>whnf
  repeat' ((first|refine aG qL ?_|refine ld q0 ?_|refine aq ?_|refine ah ?_|refine ptr ?_)<;>conv=>whnf)
  refine aj (uY _ _ _ _) ?_;conv=>whnf
  apply aT<;>intro g;all_goals conv=>whnf
  ·exact⟨4,by simp only[bD];simp;omega,rfl,hS.ma.pn⟩
  have dW:bD u ⟨13,a,b⟩ [v0] M.objs f=sZ (qh a) (List.replicate v0.n.toNat (if a=0 then 1 else 8)) M.objs f:=by
   simp[bD,g.1,g.2]
  repeat' ((first|exact trivial|apply T_|refine aG qL ?_|refine ld q0 ?_|refine aK (qd _ _) ?_|refine aK (yR _ _) ?_|refine aq ?_|refine ah ?_|refine ptr ?_)<;>conv=>whnf)
  all_goals refine ec [Value.int .i64 (if a=0 then 1 else 8)] rfl (λb h1 hb hh l1 hg=>?_)
  all_goals
   have RL:HI h1 (.slice (some ⟨b,0,none⟩) 1 1) [if a=0 then 1 else 8] :=
    ⟨by simp,by simp[bN],_,1,rfl,by simp,.inr ⟨b,0,rfl,(bO hg 1 0 (by simp)).trans rfl⟩⟩
   conv=>whnf
   have q0':=aX l1 q0;repeat' ((first|refine aG qL ?_|refine ld q0' ?_|refine aK (qd _ _) ?_|refine aK (yR _ _) ?_|refine aq ?_|refine ah ?_|refine ptr ?_)<;>conv=>whnf)
   refine cX (K7 _ v0.n _ h1 RL (by omega)) ?_;rintro v h2 ⟨l2,Bc,oc,nc⟩;refine⟨l2,?_⟩;conv=>whnf
   have HL:=y_ l1 l2;refine dK (HM h0 h2 bs bm bf off u m fs f M B (qh a) _ v Bc (hS.mono HL) oc (by simp;omega) (by omega)) ?_ ?_
   ·rintro v h' ⟨k1,B',k2,k3⟩;conv=>whnf
    refine⟨_,{f with stack:=f.stack++[⟨true,M.objs.length+1⟩]},?_,B',k2,(Ev.of_le HL (bm::B) (λb hb=>.inl hb)).trans k3⟩;rw[dW,sZ,dH,if_pos k1]
   ·rintro c h' ⟨k1,k2,k3⟩;refine⟨0,?_,k2,k3⟩;rw[dW,sZ,dH,if_neg (by omega)]
 ·
  obtain⟨v0,rfl,ig⟩:=t14 rfl;have hi0:0 < [v0].length:=by simp
  obtain⟨b0,qL,n0,q0,_,_⟩:=ot.two hi0;simp only[List.getElem_cons_zero]at n0 q0;have qE:=tr v0 (by simp) ig;refine outs au func161 Ck xz rfl ?_;conv=>whnf
  repeat' ((first|refine aG qL ?_|refine dJ n0 ?_|refine aq ?_|refine ah ?_|refine ptr ?_)<;>conv=>whnf)
  refine dK (Ct h0 h bs bm bf off u m fs f M B v0 _ _ (λc=>decide (c < 0)) hS (.inr (.inr ⟨rfl,rfl⟩)) qE (by omega) (λ_=>Eb h _)) ?_ ?_
  ·rintro v h' ⟨rfl,e1,e2,bo,c,e3,rfl⟩;have ud:=hS.j6 e1 qE.2;obtain⟨bo',c',v,Bi,s1,s2,s3,ov,_⟩:=ud;rw[e3]at s1;simp only[v_,Z_,Addr.mk.injEq,and_true,true_and]at s1;obtain⟨rfl,rfl⟩:=s1;obtain⟨pv,cv,rfl,NA⟩:=ov.form;conv=>whnf
   repeat' ((first|refine ld s3 ?_|refine aq ?_|refine ah ?_|refine ptr ?_)<;>conv=>whnf)
   have dW:bD u ⟨14,a,b⟩ [v0] M.objs f=dH M.objs f ⟨false,(((aF M.objs v0.n).aW.map bR).length:Int)⟩:=by
    simp only[bD,List.getD_cons_zero,eE,e2];simp;rw[if_neg (by omega)]
   rw[dW];refine dK (Cx ⟨false,(((aF M.objs v0.n).aW.map bR).length:Int)⟩ hS YW) ?_ ?_
   ·rintro v h' hh;conv=>whnf
    exact hh
   ·rintro c h' hh;exact hh
  ·rintro c h' ⟨rfl,e1⟩;rcases e1 with ⟨e1,e2,e3⟩|⟨e1,e3⟩
   ·exact⟨0,by simp only[bD,List.getD_cons_zero,eE,e2];simp[e1],e3,hS.ma.pn⟩
   ·exact⟨2,by simp only[bD,List.getD_cons_zero,eE];simp[e1],e3,hS.ma.pn⟩
 ·
  obtain⟨v0,v1,rfl,ig⟩:=t15 rfl;obtain⟨b0,qL,_,eI⟩:=ot.all (by simp);have n0:=(eI 0 (by simp)).1;have q1:=(eI 1 (by simp)).2;simp only[List.getElem_cons_zero,List.getElem_cons_succ]at n0 q1;have qE:=tr v0 (by simp) ig;have AN:(List.map bR [v0,v1]).length=2:=rfl;have dW:bD u ⟨15,a,b⟩ [v0,v1] M.objs f=(match qi M.objs v0 a v1.n with
   | .error e=>.error e
   | .ok o=>dH M.objs f (o.aW.getD v1.n.toNat cU)):=rfl
  rw[dW];refine outs au func161 Ck xz rfl ?_;conv=>whnf
  repeat' ((first|exact trivial|apply T_|refine aG qL ?_|refine ld q1 ?_|refine dJ n0 ?_|refine aq ?_|refine ah ?_|refine ptr ?_)<;>conv=>whnf)
  all_goals
   refine sC (AT h0 h bs bm bf off u m fs f M B v0 a v1.n hS qE (by omega)) ?_ ?_
   ·rintro v h1 ⟨l1,e1,e2,e3,e4,bo,c,bv,cv,nv,s1,s2,rfl⟩;refine⟨l1,?_⟩;have gq:=hS.mono l1;have nR:=gq.at e1 qE.2 s1;obtain⟨p1,k1,c1,Bi,w1,ov,rfl,_⟩:=nR;rw[s2]at w1;simp only[v_,Z_]at w1;obtain⟨rfl,rfl,rfl⟩:=w1;have hi:v1.n.toNat < (aF M.objs v0.n).aW.length:=by omega
    have yZ:=ov.all (by omega);obtain⟨bv',Gf,_,yZ⟩:=yZ;simp only[v_,Addr.mk.injEq,and_true]at Gf;subst Gf;have n1:=(yZ _ hi).1;rw[Cw e1 e2 ⟨e3,e4⟩];simp only[sI hi];conv=>whnf
    repeat' ((first|refine aG qL ?_|refine ld (aX l1 q1) ?_|refine dJ n1 ?_|refine aq ?_|refine ah ?_|refine ptr ?_)<;>conv=>whnf)
    refine dK (Cx (aF M.objs v0.n).aW[v1.n.toNat] gq (Ev.of_le l1 (bm::B) (λb hb=>.inl hb))) ?_ ?_
    ·rintro v h' hh;conv=>whnf
     exact hh
    ·rintro c h' hh;exact hh
   ·rintro c h1 ⟨l1,e1⟩;have qj:=hS.ma.K1 l1;rcases e1 with ⟨e1,e2,e3⟩|⟨e1,e3⟩|⟨e1,e2,e3,e4⟩
    ·exact⟨0,by rw[yX e1 e2],e3,qj⟩
    ·exact⟨2,by rw[yY e1],e3,qj⟩
    ·exact⟨3,by rw[uf e1 e2 e3],e4,qj⟩
 ·
  obtain⟨v0,v1,v2,rfl,ig⟩:=t16 rfl;obtain⟨b0,qL,_,eI⟩:=ot.all (by simp);have n0:=(eI 0 (by simp)).1;have q1:=(eI 1 (by simp)).2;have n2:=(eI 2 (by simp)).1;simp only[List.getElem_cons_zero,List.getElem_cons_succ]at n0 q1 n2;have qE:=tr v0 (by simp) ig;have AN:(List.map bR [v0,v1,v2]).length=3:=rfl;have dW:bD u ⟨16,a,b⟩ [v0,v1,v2] M.objs f=(match qi M.objs v0 a v1.n with
   | .error e=>.error e
   | .ok o=>.ok (ij M.objs v0.n (putAt o.aW v1.n v2),f)):=rfl
  rw[dW];refine outs au func161 Ck xz rfl ?_;conv=>whnf
  repeat' ((first|exact trivial|apply T_|refine aG qL ?_|refine ld q1 ?_|refine dJ n0 ?_|refine dJ n2 ?_|refine aq ?_|refine ah ?_|refine ptr ?_)<;>conv=>whnf)
  all_goals
   refine sC (AT h0 h bs bm bf off u m fs f M B v0 a v1.n hS qE (by omega)) ?_ ?_
   ·rintro v h1 ⟨l1,e1,e2,e3,e4,bo,c,bv,cv,nv,s1,s2,rfl⟩;refine⟨l1,?_⟩;have gq:=hS.mono l1;have nR:=gq.at e1 qE.2 s1;obtain⟨p1,k1,c1,Bi,w1,ov,rfl,fe⟩:=nR;rw[s2]at w1;simp only[v_,Z_]at w1;obtain⟨rfl,rfl,rfl⟩:=w1;have hi:v1.n.toNat < (aF M.objs v0.n).aW.length:=by omega
    have Sa:=cr.put ov hi;obtain⟨bv',pre,xx,post,tt,Gf,_,Sb,fV,Ae,rfl,Cy⟩:=Sa;simp only[v_,Addr.mk.injEq,and_true]at Gf;subst Gf;rw[Cw e1 e2 ⟨e3,e4⟩];conv=>whnf
    repeat' ((first|refine aG qL ?_|refine dJ (bK l1 n2) ?_|refine aq ?_|refine ah ?_|refine ptr ?_)<;>conv=>whnf)
    refine st Sb (by simp[Ae,bR,fV]<;>omega) ?_;have hw:eS (pre++xx++post) (0+v1.n.toNat*2) [.bool v2.ref,.int .i64 v2.n]=pre++bR v2++post:=m4 (by omega) (by rw[Ae];rfl);have ko:=fe (h1.set bv (.cells (pre++bR v2++post).toArray tt (0,0))) _ (Cy _ v2 (dh _ _ _)) (λb hb _=>by simp only[Heap.set];rw[if_neg (by simpa using hb)]);obtain⟨B',k1,k2⟩:=ko;rw[show eS (pre++xx++post) _ _=pre++bR v2++post from hw];conv=>whnf
    refine⟨_,_,rfl,B',?_,(Ev.of_le l1 (bm::B) (λb hb=>.inl hb)).trans k2⟩;have:=k1.ag;simp only at this;rw[<-hS.ag];exact k1
   ·rintro c h1 ⟨l1,e1⟩;have qj:=hS.ma.K1 l1;rcases e1 with ⟨e1,e2,e3⟩|⟨e1,e3⟩|⟨e1,e2,e3,e4⟩
    ·exact⟨0,by rw[yX e1 e2],e3,qj⟩
    ·exact⟨2,by rw[yY e1],e3,qj⟩
    ·exact⟨3,by rw[uf e1 e2 e3],e4,qj⟩
 ·
  obtain⟨v0,rfl,ig⟩:=t17 rfl;obtain⟨b0,qL,_,eI⟩:=ot.all (by simp);have n0:=(eI 0 (by simp)).1;simp only[List.getElem_cons_zero]at n0;have qE:=tr v0 (by simp) ig;have AN:(List.map bR [v0]).length=1:=rfl;have hc:=lI (.inr (.inl rfl));have hb:=pI (.inl rfl);have dW:bD u ⟨17,a,b⟩ [v0] M.objs f=(match eE M.objs v0.n (up u.J (aF M.objs v0.n).cls a)with
   | .error e=>.error e
   | .ok o=>dH M.objs f (o.aW.getD b.toNat cU)):=rfl
  rw[dW];refine outs au func161 Ck xz rfl ?_;conv=>whnf
  repeat' ((first|exact trivial|apply T_|refine aG qL ?_|refine dJ n0 ?_|refine aq ?_|refine ah ?_|refine ptr ?_)<;>conv=>whnf)
  all_goals
   refine sC (sH h0 h bs bm bf off u m fs f M B v0 a hS ok qE (by omega) (λhp=>(ud _ (j8 hp qE.2)).1.2)) ?_ ?_
   ·rintro v h1 ⟨l1,e1,e2,bo,c,s1,rfl⟩;refine⟨l1,?_⟩;have gq:=hS.mono l1;have nR:=gq.at e1 qE.2 s1;obtain⟨p1,k1,c1,Bi,w1,ov,rfl,_⟩:=nR;have QF:=ud _ (j8 e1 qE.2);have h0c:=lO e2;have hle:=vk ok _ (Nat.lt_succ_self _) QF.1.2 e2;have Cz:=QF.2 h0c;have hi:b.toNat < (aF M.objs v0.n).aW.length:=by omega
    have yZ:=ov.all (by omega);obtain⟨bv,Gf,_,yZ⟩:=yZ;have n1:=(yZ _ hi).1;rw[gR e1 e2];simp only[sI hi];conv=>whnf
    repeat' ((first|exact trivial|apply T_|refine ld w1 ?_|refine aG Gf ?_|refine dJ n1 ?_|refine aq ?_|refine ah ?_|refine ptr ?_)<;>conv=>whnf)
    all_goals
     refine dK (Cx (aF M.objs v0.n).aW[b.toNat] gq (Ev.of_le l1 (bm::B) (λb hb=>.inl hb))) ?_ ?_
     ·rintro v h' hh;conv=>whnf
      exact hh
     ·rintro c h' hh;exact hh
   ·rintro c h1 ⟨l1,e1⟩;have qj:=hS.ma.K1 l1;rcases e1 with ⟨e1,e2,e3⟩|⟨e1,e3⟩
    ·exact⟨0,by rw[gJ e1 e2],e3,qj⟩
    ·exact⟨2,by rw[gK e1],e3,qj⟩
 ·
  obtain⟨v0,v1,rfl,ig⟩:=t18 rfl;obtain⟨b0,qL,_,eI⟩:=ot.all (by simp);have n0:=(eI 0 (by simp)).1;have n1:=(eI 1 (by simp)).1;simp only[List.getElem_cons_zero,List.getElem_cons_succ]at n0 n1;have qE:=tr v0 (by simp) ig;have AN:(List.map bR [v0,v1]).length=2:=rfl;have hc:=lI (.inr (.inr (.inl rfl)));have hb:=pI (.inr rfl);have dW:bD u ⟨18,a,b⟩ [v0,v1] M.objs f=(match eE M.objs v0.n (up u.J (aF M.objs v0.n).cls a)with
   | .error e=>.error e
   | .ok o=>.ok (ij M.objs v0.n (putAt o.aW b v1),f)):=rfl
  rw[dW];refine outs au func161 Ck xz rfl ?_;conv=>whnf
  repeat' ((first|exact trivial|apply T_|refine aG qL ?_|refine dJ n0 ?_|refine dJ n1 ?_|refine aq ?_|refine ah ?_|refine ptr ?_)<;>conv=>whnf)
  all_goals
   refine sC (sH h0 h bs bm bf off u m fs f M B v0 a hS ok qE (by omega) (λhp=>(ud _ (j8 hp qE.2)).1.2)) ?_ ?_
   ·rintro v h1 ⟨l1,e1,e2,bo,c,s1,rfl⟩;refine⟨l1,?_⟩;have gq:=hS.mono l1;have nR:=gq.at e1 qE.2 s1;obtain⟨p1,k1,c1,Bi,w1,ov,rfl,fe⟩:=nR;have QF:=ud _ (j8 e1 qE.2);have h0c:=lO e2;have hle:=vk ok _ (Nat.lt_succ_self _) QF.1.2 e2;have Cz:=QF.2 h0c;have hi:b.toNat < (aF M.objs v0.n).aW.length:=by omega
    have Sa:=cr.put ov hi;obtain⟨bv,pre,xx,post,tt,Gf,_,Sb,fV,Ae,rfl,Cy⟩:=Sa;rw[gR e1 e2];conv=>whnf
    repeat' ((first|exact trivial|apply T_|refine ld w1 ?_|refine aG Gf ?_|refine aG qL ?_|refine dJ (bK l1 n1) ?_|refine aq ?_|refine ah ?_|refine ptr ?_)<;>conv=>whnf)
    all_goals
     refine st Sb (by simp[Ae,bR,fV]<;>omega) ?_;have hw:eS (pre++xx++post) (0+b.toNat*2) [.bool v1.ref,.int .i64 v1.n]=pre++bR v1++post:=m4 (by omega) (by rw[Ae];rfl);have ko:=fe (h1.set bv (.cells (pre++bR v1++post).toArray tt (0,0))) _ (Cy _ v1 (dh _ _ _)) (λb hb _=>by simp only[Heap.set];rw[if_neg (by simpa using hb)]);obtain⟨B',k1,k2⟩:=ko;rw[show eS (pre++xx++post) _ _=pre++bR v1++post from hw];conv=>whnf
     refine⟨_,_,rfl,B',?_,(Ev.of_le l1 (bm::B) (λb hb=>.inl hb)).trans k2⟩;rw[<-hS.ag];exact k1
   ·rintro c h1 ⟨l1,e1⟩;have qj:=hS.ma.K1 l1;rcases e1 with ⟨e1,e2,e3⟩|⟨e1,e3⟩
    ·exact⟨0,by rw[gJ e1 e2],e3,qj⟩
    ·exact⟨2,by rw[gK e1],e3,qj⟩
 ·
  obtain⟨v0,rfl,ig⟩:=t19 rfl;obtain⟨b0,qL,_,eI⟩:=ot.all (by simp);have n0:=(eI 0 (by simp)).1;simp only[List.getElem_cons_zero]at n0;have qE:=tr v0 (by simp) ig;have AN:(List.map bR [v0]).length=1:=rfl;have hc:=lI (.inr (.inr (.inr rfl)));have dW:bD u ⟨19,a,b⟩ [v0] M.objs f=(if 0 < v0.n/\iy u.J (typeOf (aF M.objs v0.n).cls) (8+a)=false then .error 5 else dH M.objs f v0):=rfl;rw[dW];refine outs au func161 Ck xz rfl ?_;conv=>whnf
  repeat' ((first|refine aG qL ?_|refine dJ n0 ?_|refine aq ?_|refine ah ?_|refine ptr ?_)<;>conv=>whnf)
  have fin:∀ {K:Value->Heap->Prop} {E:List PanicEntry->Heap->Prop},(∀ v h',OI h0 h bs bm bf off u m fs M B (dH M.objs f v0) (.ret v) h'->K v h')->(∀ c h',OI h0 h bs bm bf off u m fs M B (dH M.objs f v0) (.lY c) h'->E c h')->Vc.Call prog 159 [.pointer (some ⟨bs,0,none⟩),.agg #[.bool v0.ref,.int .i64 v0.n]] h K E:=λk1 k2=>dK (Cx v0 hS YW) k1 k2;by_cases sX:0 < v0.n
  ·have nR:=hS.j6 sX qE.2;obtain⟨bo,c,v,Bi,s1,s2,s3,_,_⟩:=nR;have QF:=ud _ (j8 sX qE.2);have Ny:=ok.2.1;have N9:F5 u.J.length (typeOf (aF M.objs v0.n).cls):=by unfold F5 typeOf;repeat' split<;>omega
   have acm:F5 u.J.length (8+a):=by unfold F5;omega
   refine gI sX ?_;conv=>whnf
   rw[ig];repeat' ((first|refine ld r9 ?_|refine ld r2 ?_|refine ld s1 ?_|refine aq ?_|refine ah ?_|refine ptr ?_)<;>conv=>whnf)
   refine aK (IV h bo _ c v0.n _ s2 ⟨sX,qE.2⟩ (by omega) (by omega)) ?_;conv=>whnf
   repeat' ((first|refine aK (K0 _ _ _ _ _ _ h hcs ok N9 acm) ?_|refine aq ?_|refine ah ?_|refine ptr ?_)<;>conv=>whnf)
   apply cJ<;>intro k;all_goals conv=>whnf
   ·exact⟨5,by rw[if_pos ⟨sX,k⟩],rfl,hS.ma.pn⟩
   ·rw[if_neg (by rw[k];simp)];rw[ig]at fin;refine fin ?_ ?_
    ·rintro v h' hh;conv=>whnf
     exact hh
    ·rintro c h' hh;exact hh
  ·refine cM sX ?_;conv=>whnf
   rw[if_neg (λhx=>sX hx.1)];refine fin ?_ ?_
   ·rintro v h' hh;conv=>whnf
    exact hh
   ·rintro c h' hh;exact hh
def CA (_:Heap) (x:List Value) (a:Int) (B:List Nat):Prop:=x=bN a/\B=[]
theorem QG:Kept CA:=λ_ _ _ _ _ _ h=>h
theorem inN:OD CA:=λ_ _ _ _ h b hb=>by rw[h.2]at hb;cases hb
theorem QH {h:Heap}:∀ l:List Int,Rows CA h (l.map bN) l []
 | []=>.nil
 | a::l=>by have:=Rows.cons (R:=CA) (h:=h) (x:=bN a) (a:=a) (B1:=[]) ⟨rfl,rfl⟩ (QH l);simpa using this
theorem K9 {h:Heap} {v:Value} {l:List Int} {B:List Nat} (ho:dR h v l B):eN CA 1 h v l B:=⟨_,B,[],ho,QH l,by simp⟩
theorem IW {h:Heap} {xs:List (List Value)} {l:List Int} {B:List Nat} (hr:Rows CA h xs l B):xs=l.map bN/\B=[]:=by
 induction hr with
 | nil=>exact⟨rfl,rfl⟩
 | cons h1 _ ih=>obtain⟨rfl,rfl⟩:=h1;obtain⟨rfl,rfl⟩:=ih;exact⟨rfl,rfl⟩
theorem La {h:Heap} {v:Value} {l:List Int} {B:List Nat} (ho:eN CA 1 h v l B):dR h v l B:=by
 obtain⟨xs,B0,B1,h1,h2,rfl⟩:=ho;obtain⟨rfl,rfl⟩:=IW h2;simpa using h1
theorem gV.YX {h0 h:Heap} {bm:Nat} {pre post:List Value} {M:bM} {B:List Nat} (hM:gV h0 h bm pre post M B) (hl:M.objs.length<=1000) :
  ∃ t p c vf vs,h bm=some (.cells (pre++ay (.slice p M.objs.length c) vf vs M++post).toArray t (0,0)) /\
   ∀ {bytes:Nat} {zero:List Value} {el:TypeId} {m':Nat} (a:Ob) (Bv:List Nat) (y:List Value) (K:Value->Heap->Prop),mA h y a Bv->Nd Bv->(∀ b∈Bv,b ∉ bm::B/\h0 b=none)->m'=1->y.length=2->eu y=true->zero.length=2->bytes<=1000 ->
    (∀ p' c' jx,jx bm=h bm->(∀ b,b ∉ B->b ∉ Bv->h b≠none->jx b=h b)->h0.le jx->(∃ B',gV h0 (jx.set bm (.cells (pre++ay (.slice p' (M.objs.length+1) c') vf vs M++post).toArray t (0,0))) bm pre post {M with objs:=M.objs++[a]} B' /\
     Ev h (jx.set bm (.cells (pre++ay (.slice p' (M.objs.length+1) c') vf vs M++post).toArray t (0,0))) ((bm::B)++Bv) (bm::B'))->K (.slice p' (M.objs.length+1) c') jx)->App bytes 2 zero el h p M.objs.length c m' y K:=by
 have nd:=hM.nd;have fW:=hM.in;have hle:=hM.le;have gz:=hM.fr;obtain⟨t,vo,vf,vs,B1,B2,B3,hb,h1,h2,h3,rfl,fe⟩:=hM.whole;obtain⟨p,c,rfl,hc⟩:=h1.form;refine⟨t,p,c,vf,vs,hb,?_⟩;intro bytes zero el m' a Bv y K k1 k2 k3 k4 k5 k6 k7 k8 k9;have hv:∀ b∈Bv,b ∉ B1/\b ∉ B2/\b ∉ B3/\b≠bm:=by
  intro b bA;have:=k3 b bA;simp at this;grind
 have hB:∀ b∈B1,b ∉ B2/\b ∉ B3/\b≠bm:=by
  intro b bA;have hp:=W_.2 bA;have hn:=nd b;simp only[Y_,X_]at hn;refine⟨λhx=>?_,λhx=>?_,?_⟩
  ·have:=W_.2 hx;omega
  ·have:=W_.2 hx;omega
  ·rintro rfl;simp at hn;omega
 have iR:bm ∉ B1++B2++B3:=by
  intro hx;have:=W_.2 hx;have hn:=nd bm;simp only[X_,beq_self_eq_true,if_true]at hn;omega
 have Gc:Nd (B1++B2++B3):=nd.less λa=>by simp only[X_];omega
 have Gd:Nd (B1++Bv):=by
  have:=Nd.swap (A:=B1) (X:=B2++B3) (X':=Bv) (Gc.perm λa=>by simp only[Y_];omega) k2 (λb bA=>.inr (by have:=hv b bA;grind));exact this
 refine oQ jP Ad (h0:=h0) h1 k1 Gd (λb bA=>?_) hle k4 k5 k6 k7 (by have:=Nat.mul_le_mul (show M.objs.length+1<=1001 by omega) k8;omega) (by omega) ?_
 ·rcases u_.1 bA with bA|bA
  ·exact gz b (by simp[bA])
  ·exact(k3 b bA).2
 intro v' jx jz g1 g2 g3 g4 g5;obtain⟨p',c',rfl,_⟩:=g2.form;have hlen:(M.objs++[a]).length=M.objs.length+1:=by simp
 rw[hlen]at g2 ⊢;have same:∀ b,b ∉ B1->b ∉ Bv->h b≠none->jx b=h b:=λb n1 n2 n3=>g5.iB b n3 (by simp[n1,n2]);have e1:jx bm=h bm:=same bm (λhx=>iR (by simp[hx])) (λhx=>(hv _ hx).2.2.2 rfl) (by rw[hb];simp);refine k9 p' c' jx e1 (λb n1 n2 n3=>same b (λhx=>n1 (by simp[hx])) n2 n3) g1 ?_;have R8:bm ∉ jz:=by
  intro hx;rcases g5.new bm hx with hy|hy
  ·rcases u_.1 hy with hy|hy
   ·exact iR (by simp[hy])
   ·exact(hv _ hy).2.2.2 rfl
  ·rw[hb]at hy;cases hy
 have j7:∀ C:List Nat,(∀ b∈C,b≠bm/\b ∉ B1/\b ∉ Bv)->cR h (jx.set bm (.cells (pre++ay (.slice p' (M.objs.length+1) c') vf vs M++post).toArray t (0,0))) C:=by
  intro C hC b bA o ho;have:=hC b bA;simp only[Heap.set,this.1,if_false];rw[same b this.2.1 this.2.2 (by rw[ho];simp)];exact ho
 have d0:∀ b∈B2,b≠bm/\b ∉ B1/\b ∉ Bv:=λb bA=>⟨λhx=>iR (by simp[<-hx,bA]),λhx=>by have:=hB b hx;grind,λhx=>by have:=hv b hx;grind⟩
 have d1:∀ b∈B3,b≠bm/\b ∉ B1/\b ∉ Bv:=λb bA=>⟨λhx=>iR (by simp[<-hx,bA]),λhx=>by have:=hB b hx;grind,λhx=>by have:=hv b hx;grind⟩
 have Fm:Ev h (jx.set bm (.cells (pre++ay (.slice p' (M.objs.length+1) c') vf vs M++post).toArray t (0,0))) ((bm::(B1++B2++B3))++Bv) (bm::(jz++B2++B3)):=by
  refine⟨λb bA hn=>?_,λb bA=>?_⟩
  ·have:b≠bm:=λhx=>hn (by simp[hx]);simp only[Heap.set,this,if_false];exact same b (λhx=>hn (by simp[hx])) (λhx=>hn (by simp[hx])) bA
  ·have:b∈jz\/b∈bm::(B2++B3):=by simp at bA ⊢;grind
   rcases this with hx|hx
   ·exact(g5.new b hx).imp (λhy=>by simp at hy ⊢;grind) id
   ·exact .inl (by simp at hx ⊢;grind)
 have Ge:Nd (bm::(jz++B2++B3)):=by
  have:=Nd.swap (A:=bm::(B2++B3)) (X:=B1) (X':=jz) (nd.perm λa=>by simp only[Y_,X_];omega) g3 (λb bA=>?_)
  ·exact this.perm λa=>by simp only[Y_,X_];omega
  ·rcases g5.new b bA with hx|hx
   ·rcases u_.1 hx with hx|hx
    ·exact .inl hx
    ·have:=hv b hx;exact .inr (by simp;grind)
   ·refine .inr λhy=>?_;obtain⟨o,ho⟩:=fW b (by simp at hy ⊢;grind);rw[hx]at ho;cases ho
 refine⟨jz++B2++B3,⟨Heap.aP g1 (gz bm (by simp)),⟨ay (.slice p' (M.objs.length+1) c') vf vs M,t,by simp[Heap.set],_,vf,vs,jz,B2,B3,rfl,?_,?_,?_,rfl⟩,Ge,?_⟩,Fm⟩
 ·refine g2.aJ jP λb bA o ho=>?_;have:b≠bm:=by rintro rfl;exact R8 bA
  simp only[Heap.set,this,if_false];exact ho
 ·exact h2.aJ mY (j7 B2 d0)
 ·exact h3.aJ (j7 B3 d1)
 ·intro b bA;have:b∈jz\/b∈bm::(B1++B2++B3):=by simp at bA ⊢;grind
  rcases this with hx|hx
  ·exact g4 b hx
  ·exact gz b hx
theorem gV.AU {h0 h:Heap} {bm:Nat} {pre post:List Value} {M:bM} {B:List Nat} (hM:gV h0 h bm pre post M B) (hl:M.ag.length<=1000) :
  ∃ t p c vo vs,h bm=some (.cells (pre++ay vo (.slice p M.ag.length c) vs M++post).toArray t (0,0)) /\
   ∀ {bytes:Nat} {zero:List Value} {el:TypeId} {m':Nat} (a:bQ) (Bv:List Nat) (y:List Value) (K:Value->Heap->Prop),qf h y a Bv->Nd Bv->(∀ b∈Bv,b ∉ bm::B/\h0 b=none)->m'=1->y.length=4->eu y=true->zero.length=4->bytes<=1000 ->
    (∀ p' c' jx,jx bm=h bm->(∀ b,b ∉ B->b ∉ Bv->h b≠none->jx b=h b)->h0.le jx->(∃ B',gV h0 (jx.set bm (.cells (pre++ay vo (.slice p' (M.ag.length+1) c') vs M++post).toArray t (0,0))) bm pre post {M with ag:=M.ag++[a]} B' /\
     Ev h (jx.set bm (.cells (pre++ay vo (.slice p' (M.ag.length+1) c') vs M++post).toArray t (0,0))) ((bm::B)++Bv) (bm::B'))->K (.slice p' (M.ag.length+1) c') jx)->App bytes 4 zero el h p M.ag.length c m' y K:=by
 have nd:=hM.nd;have fW:=hM.in;have hle:=hM.le;have gz:=hM.fr;obtain⟨t,vo,vf,vs,B1,B2,B3,hb,h1,h2,h3,rfl,fe⟩:=hM.whole;obtain⟨p,c,rfl,hc⟩:=h2.form;refine⟨t,p,c,vo,vs,hb,?_⟩;intro bytes zero el m' a Bv y K k1 k2 k3 k4 k5 k6 k7 k8 k9;have hv:∀ b∈Bv,b ∉ B1/\b ∉ B2/\b ∉ B3/\b≠bm:=by
  intro b bA;have:=k3 b bA;simp at this;grind
 have hB:∀ b∈B2,b ∉ B1/\b ∉ B3/\b≠bm:=by
  intro b bA;have hp:=W_.2 bA;have hn:=nd b;simp only[Y_,X_]at hn;refine⟨λhx=>?_,λhx=>?_,?_⟩
  ·have:=W_.2 hx;omega
  ·have:=W_.2 hx;omega
  ·rintro rfl;simp at hn;omega
 have iR:bm ∉ B1++B2++B3:=by
  intro hx;have:=W_.2 hx;have hn:=nd bm;simp only[X_,beq_self_eq_true,if_true]at hn;omega
 have Gc:Nd (B1++B2++B3):=nd.less λa=>by simp only[X_];omega
 have Gd:Nd (B2++Bv):=by
  have:=Nd.swap (A:=B2) (X:=B1++B3) (X':=Bv) (Gc.perm λa=>by simp only[Y_];omega) k2 (λb bA=>.inr (by have:=hv b bA;grind));exact this
 refine oQ mY Ui (h0:=h0) h2 k1 Gd (λb bA=>?_) hle k4 k5 k6 k7 (by have:=Nat.mul_le_mul (show M.ag.length+1<=1001 by omega) k8;omega) (by omega) ?_
 ·rcases u_.1 bA with bA|bA
  ·exact gz b (by simp[bA])
  ·exact(k3 b bA).2
 intro v' jx ie g1 g2 g3 g4 g5;obtain⟨p',c',rfl,_⟩:=g2.form;have hlen:(M.ag++[a]).length=M.ag.length+1:=by simp
 rw[hlen]at g2 ⊢;have same:∀ b,b ∉ B2->b ∉ Bv->h b≠none->jx b=h b:=λb n1 n2 n3=>g5.iB b n3 (by simp[n1,n2]);have e1:jx bm=h bm:=same bm (λhx=>iR (by simp[hx])) (λhx=>(hv _ hx).2.2.2 rfl) (by rw[hb];simp);refine k9 p' c' jx e1 (λb n1 n2 n3=>same b (λhx=>n1 (by simp[hx])) n2 n3) g1 ?_;have R8:bm ∉ ie:=by
  intro hx;rcases g5.new bm hx with hy|hy
  ·rcases u_.1 hy with hy|hy
   ·exact iR (by simp[hy])
   ·exact(hv _ hy).2.2.2 rfl
  ·rw[hb]at hy;cases hy
 have j7:∀ C:List Nat,(∀ b∈C,b≠bm/\b ∉ B2/\b ∉ Bv)->cR h (jx.set bm (.cells (pre++ay vo (.slice p' (M.ag.length+1) c') vs M++post).toArray t (0,0))) C:=by
  intro C hC b bA o ho;have:=hC b bA;simp only[Heap.set,this.1,if_false];rw[same b this.2.1 this.2.2 (by rw[ho];simp)];exact ho
 have d0:∀ b∈B1,b≠bm/\b ∉ B2/\b ∉ Bv:=λb bA=>⟨λhx=>iR (by simp[<-hx,bA]),λhx=>by have:=hB b hx;grind,λhx=>by have:=hv b hx;grind⟩
 have d1:∀ b∈B3,b≠bm/\b ∉ B2/\b ∉ Bv:=λb bA=>⟨λhx=>iR (by simp[<-hx,bA]),λhx=>by have:=hB b hx;grind,λhx=>by have:=hv b hx;grind⟩
 have Fm:Ev h (jx.set bm (.cells (pre++ay vo (.slice p' (M.ag.length+1) c') vs M++post).toArray t (0,0))) ((bm::(B1++B2++B3))++Bv) (bm::(B1++ie++B3)):=by
  refine⟨λb bA hn=>?_,λb bA=>?_⟩
  ·have:b≠bm:=λhx=>hn (by simp[hx]);simp only[Heap.set,this,if_false];exact same b (λhx=>hn (by simp[hx])) (λhx=>hn (by simp[hx])) bA
  ·have:b∈ie\/b∈bm::(B1++B3):=by simp at bA ⊢;grind
   rcases this with hx|hx
   ·exact(g5.new b hx).imp (λhy=>by simp at hy ⊢;grind) id
   ·exact .inl (by simp at hx ⊢;grind)
 have Ge:Nd (bm::(B1++ie++B3)):=by
  have:=Nd.swap (A:=bm::(B1++B3)) (X:=B2) (X':=ie) (nd.perm λa=>by simp only[Y_,X_];omega) g3 (λb bA=>?_)
  ·exact this.perm λa=>by simp only[Y_,X_];omega
  ·rcases g5.new b bA with hx|hx
   ·rcases u_.1 hx with hx|hx
    ·exact .inl hx
    ·have:=hv b hx;exact .inr (by simp;grind)
   ·refine .inr λhy=>?_;obtain⟨o,ho⟩:=fW b (by simp at hy ⊢;grind);rw[hx]at ho;cases ho
 refine⟨B1++ie++B3,⟨Heap.aP g1 (gz bm (by simp)),⟨ay vo (.slice p' (M.ag.length+1) c') vs M,t,by simp[Heap.set],vo,_,vs,B1,ie,B3,rfl,?_,?_,?_,rfl⟩,Ge,?_⟩,Fm⟩
 ·exact h1.aJ jP (j7 B1 d0)
 ·refine g2.aJ mY λb bA o ho=>?_;have:b≠bm:=by rintro rfl;exact R8 bA
  simp only[Heap.set,this,if_false];exact ho
 ·exact h3.aJ (j7 B3 d1)
 ·intro b bA;have:b∈ie\/b∈bm::(B1++B2++B3):=by simp at bA ⊢;grind
  rcases this with hx|hx
  ·exact g4 b hx
  ·exact gz b hx
theorem gV.QI {h0 h:Heap} {bm:Nat} {pre post:List Value} {M:bM} {B:List Nat} (hM:gV h0 h bm pre post M B) (hl:M.said.length<=1000) :
  ∃ t p c vo vf,h bm=some (.cells (pre++ay vo vf (.slice p M.said.length c) M++post).toArray t (0,0)) /\
   ∀ {bytes:Nat} {zero:List Value} {el:TypeId} {m':Nat} (a:Int) (Bv:List Nat) (y:List Value) (K:Value->Heap->Prop),CA h y a Bv->Nd Bv->(∀ b∈Bv,b ∉ bm::B/\h0 b=none)->m'=1->y.length=1->eu y=true->zero.length=1->bytes<=1000 ->
    (∀ p' c' jx,jx bm=h bm->(∀ b,b ∉ B->b ∉ Bv->h b≠none->jx b=h b)->h0.le jx->(∃ B',gV h0 (jx.set bm (.cells (pre++ay vo vf (.slice p' (M.said.length+1) c') M++post).toArray t (0,0))) bm pre post {M with said:=M.said++[a]} B' /\
     Ev h (jx.set bm (.cells (pre++ay vo vf (.slice p' (M.said.length+1) c') M++post).toArray t (0,0))) ((bm::B)++Bv) (bm::B'))->K (.slice p' (M.said.length+1) c') jx)->App bytes 1 zero el h p M.said.length c m' y K:=by
 have nd:=hM.nd;have fW:=hM.in;have hle:=hM.le;have gz:=hM.fr;obtain⟨t,vo,vf,vs,B1,B2,B3,hb,h1,h2,h3,rfl,fe⟩:=hM.whole;have h3:eN CA 1 h vs M.said B3:=K9 h3;obtain⟨p,c,rfl,hc⟩:=h3.form;refine⟨t,p,c,vo,vf,hb,?_⟩;intro bytes zero el m' a Bv y K k1 k2 k3 k4 k5 k6 k7 k8 k9;have hv:∀ b∈Bv,b ∉ B1/\b ∉ B2/\b ∉ B3/\b≠bm:=by
  intro b bA;have:=k3 b bA;simp at this;grind
 have hB:∀ b∈B3,b ∉ B1/\b ∉ B2/\b≠bm:=by
  intro b bA;have hp:=W_.2 bA;have hn:=nd b;simp only[Y_,X_]at hn;refine⟨λhx=>?_,λhx=>?_,?_⟩
  ·have:=W_.2 hx;omega
  ·have:=W_.2 hx;omega
  ·rintro rfl;simp at hn;omega
 have iR:bm ∉ B1++B2++B3:=by
  intro hx;have:=W_.2 hx;have hn:=nd bm;simp only[X_,beq_self_eq_true,if_true]at hn;omega
 have Gc:Nd (B1++B2++B3):=nd.less λa=>by simp only[X_];omega
 have Gd:Nd (B3++Bv):=by
  have:=Nd.swap (A:=B3) (X:=B1++B2) (X':=Bv) (Gc.perm λa=>by simp only[Y_];omega) k2 (λb bA=>.inr (by have:=hv b bA;grind));exact this
 refine oQ QG inN (h0:=h0) h3 k1 Gd (λb bA=>?_) hle k4 k5 k6 k7 (by have:=Nat.mul_le_mul (show M.said.length+1<=1001 by omega) k8;omega) (by omega) ?_
 ·rcases u_.1 bA with bA|bA
  ·exact gz b (by simp[bA])
  ·exact(k3 b bA).2
 intro v' jx F7 g1 g2 g3 g4 g5;obtain⟨p',c',rfl,_⟩:=g2.form;have hlen:(M.said++[a]).length=M.said.length+1:=by simp
 rw[hlen]at g2 ⊢;have same:∀ b,b ∉ B3->b ∉ Bv->h b≠none->jx b=h b:=λb n1 n2 n3=>g5.iB b n3 (by simp[n1,n2]);have e1:jx bm=h bm:=same bm (λhx=>iR (by simp[hx])) (λhx=>(hv _ hx).2.2.2 rfl) (by rw[hb];simp);refine k9 p' c' jx e1 (λb n1 n2 n3=>same b (λhx=>n1 (by simp[hx])) n2 n3) g1 ?_;have R8:bm ∉ F7:=by
  intro hx;rcases g5.new bm hx with hy|hy
  ·rcases u_.1 hy with hy|hy
   ·exact iR (by simp[hy])
   ·exact(hv _ hy).2.2.2 rfl
  ·rw[hb]at hy;cases hy
 have j7:∀ C:List Nat,(∀ b∈C,b≠bm/\b ∉ B3/\b ∉ Bv)->cR h (jx.set bm (.cells (pre++ay vo vf (.slice p' (M.said.length+1) c') M++post).toArray t (0,0))) C:=by
  intro C hC b bA o ho;have:=hC b bA;simp only[Heap.set,this.1,if_false];rw[same b this.2.1 this.2.2 (by rw[ho];simp)];exact ho
 have d0:∀ b∈B1,b≠bm/\b ∉ B3/\b ∉ Bv:=λb bA=>⟨λhx=>iR (by simp[<-hx,bA]),λhx=>by have:=hB b hx;grind,λhx=>by have:=hv b hx;grind⟩
 have d1:∀ b∈B2,b≠bm/\b ∉ B3/\b ∉ Bv:=λb bA=>⟨λhx=>iR (by simp[<-hx,bA]),λhx=>by have:=hB b hx;grind,λhx=>by have:=hv b hx;grind⟩
 have Fm:Ev h (jx.set bm (.cells (pre++ay vo vf (.slice p' (M.said.length+1) c') M++post).toArray t (0,0))) ((bm::(B1++B2++B3))++Bv) (bm::(B1++B2++F7)):=by
  refine⟨λb bA hn=>?_,λb bA=>?_⟩
  ·have:b≠bm:=λhx=>hn (by simp[hx]);simp only[Heap.set,this,if_false];exact same b (λhx=>hn (by simp[hx])) (λhx=>hn (by simp[hx])) bA
  ·have:b∈F7\/b∈bm::(B1++B2):=by simp at bA ⊢;grind
   rcases this with hx|hx
   ·exact(g5.new b hx).imp (λhy=>by simp at hy ⊢;grind) id
   ·exact .inl (by simp at hx ⊢;grind)
 have Ge:Nd (bm::(B1++B2++F7)):=by
  have:=Nd.swap (A:=bm::(B1++B2)) (X:=B3) (X':=F7) (nd.perm λa=>by simp only[Y_,X_];omega) g3 (λb bA=>?_)
  ·exact this.perm λa=>by simp only[Y_,X_];omega
  ·rcases g5.new b bA with hx|hx
   ·rcases u_.1 hx with hx|hx
    ·exact .inl hx
    ·have:=hv b hx;exact .inr (by simp;grind)
   ·refine .inr λhy=>?_;obtain⟨o,ho⟩:=fW b (by simp at hy ⊢;grind);rw[hx]at ho;cases ho
 refine⟨B1++B2++F7,⟨Heap.aP g1 (gz bm (by simp)),⟨ay vo vf (.slice p' (M.said.length+1) c') M,t,by simp[Heap.set],vo,vf,_,B1,B2,F7,rfl,?_,?_,?_,rfl⟩,Ge,?_⟩,Fm⟩
 ·exact h1.aJ jP (j7 B1 d0)
 ·exact h2.aJ mY (j7 B2 d1)
 ·refine La (?_);refine g2.aJ QG λb bA o ho=>?_;have:b≠bm:=by rintro rfl;exact R8 bA
  simp only[Heap.set,this,if_false];exact ho
 ·intro b bA;have:b∈F7\/b∈bm::(B1++B2++B3):=by simp at bA ⊢;grind
  rcases this with hx|hx
  ·exact g4 b hx
  ·exact gz b hx
theorem gV.QJ {h0 h:Heap} {bm:Nat} {pre post:List Value} {M M':bM} {B B':List Nat} {t:TypeId} {mc:List Value} (hM:gV h0 h bm pre post M B) (ho:gN h mc M' B') (hc:∀ a,B'.count a<=B.count a) :
  gV h0 (h.set bm (.cells (pre++mc++post).toArray t (0,0))) bm pre post M' B'/\Ev h (h.set bm (.cells (pre++mc++post).toArray t (0,0))) (bm::B) (bm::B'):=by
 have ef:∀ b,b∈bm::B'->b∈bm::B:=by
  intro b hb;have:=W_.2 hb;refine W_.1 ?_;have:=hc b;simp only[X_]at *;omega
 have tR:bm ∉ B':=by
  intro hx;have h1:=W_.2 hx;have h2:=hc bm;have h3:=hM.nd bm;simp only[X_,beq_self_eq_true,if_true]at h3;omega
 refine⟨⟨Heap.aP hM.le (hM.fr bm (by simp)),⟨mc,t,dh _ _ _,ho.aJ λb hb o ho=>?_⟩,hM.nd.less λa=>by have:=hc a;simp only[X_];omega,λb hb=>hM.fr b (ef b hb)⟩,⟨λb hb hn=>?_,λb hb=>.inl (ef b hb)⟩⟩
 ·have:b≠bm:=by rintro rfl;exact tR hb
  simp only[Heap.set,this,if_false];exact ho
 ·have:b≠bm:=λhx=>hn (by simp[hx]);simp only[Heap.set,this,if_false]
theorem gV.OJ {h0 h:Heap} {bm:Nat} {pre post:List Value} {M:bM} {B:List Nat} {fs:List bQ} {f:bQ} (hM:gV h0 h bm pre post M B) (hf:M.ag=fs++[f]) :
  ∃ t p c vo vs,h bm=some (.cells (pre++ay vo (.slice p (fs.length+1) c) vs M++post).toArray t (0,0))/\fs.length+1<=c /\
   ∃ B',gV h0 (h.set bm (.cells (pre++ay vo (.slice p fs.length c) vs M++post).toArray t (0,0))) bm pre post {M with ag:=fs} B'/\Ev h (h.set bm (.cells (pre++ay vo (.slice p fs.length c) vs M++post).toArray t (0,0))) (bm::B) (bm::B'):=by
 obtain⟨t,vo,vf,vs,B1,B2,B3,hb,h1,h2,h3,rfl,fe⟩:=hM.whole;rw[hf]at h2;obtain⟨p,c,rfl,hc⟩:=h2.form;obtain⟨hn,ie,jx,js⟩:=h2.pop;have hlen:(fs++[f]).length=fs.length+1:=by simp
 rw[hlen]at hb hc;have ko:=hM.QJ (M':={M with ag:=fs}) (mc:=ay vo (.slice p fs.length c) vs M) (t:=t) (B':=B1++ie++B3) ⟨vo,_,vs,B1,ie,B3,rfl,h1,jx,h3,rfl⟩ (λa=>by have:=js a;simp only[Y_];omega);exact⟨t,p,c,vo,vs,hb,hc,_,ko⟩
theorem gV.ints {h0 h:Heap} {bm:Nat} {pre post:List Value} {M:bM} {B:List Nat} (hM:gV h0 h bm pre post M B) :
  ∃ t vo vf vs,h bm=some (.cells (pre++ay vo vf vs M++post).toArray t (0,0))/\(∃ p c,vo=.slice p M.objs.length c)/\(∃ p c,vf=.slice p M.ag.length c)/\(∃ p c,vs=.slice p M.said.length c) /\
   ∀ M':bM,M'.objs=M.objs->M'.ag=M.ag->M'.said=M.said ->
    gV h0 (h.set bm (.cells (pre++ay vo vf vs M'++post).toArray t (0,0))) bm pre post M' B/\Ev h (h.set bm (.cells (pre++ay vo vf vs M'++post).toArray t (0,0))) (bm::B) (bm::B):=by
 obtain⟨t,vo,vf,vs,B1,B2,B3,hb,h1,h2,h3,rfl,fe⟩:=hM.whole;obtain⟨ps,cs,e3,_⟩:=h3.form;refine⟨t,vo,vf,vs,hb,?_,?_,⟨ps,cs,by rw[e3];simp⟩,λM' k1 k2 k3=>?_⟩
 ·obtain⟨p,c,e,_⟩:=h1.form;exact⟨p,c,e⟩
 ·obtain⟨p,c,e,_⟩:=h2.form;exact⟨p,c,e⟩
 ·exact hM.QJ (mc:=ay vo vf vs M') ⟨vo,vf,vs,B1,B2,B3,rfl,by rw[k1];exact h1,by rw[k2];exact h2,by rw[k3];exact h3,rfl⟩ (λa=>Nat.le_refl _)
theorem vm (h0 h:Heap) (bm:Nat) (us:List Value) (u:aO) (fs:List bQ) (f:bQ) (M:bM) (B:List Nat) (hM:gV h0 h bm [] [] M B) (hu:dG h0 us u) (hf:M.ag=fs++[f]) (hm:0<=f.U/\f.U < u.methods.length) (hl:M.ag.length<=1000) :
  bI prog 118 [.agg ⟨us⟩,.pointer (some ⟨bm,0,none⟩)] h λv h'=>h.le h'/\∃ bs bf off,v=.pointer (some ⟨bs,0,none⟩)/\h bs=none/\lB h0 h' bs bm bf off u (aV u f.U) fs f M B:=by
 have D6:=hu.le hM.le;obtain⟨vo,vs,bf,c,tm,t,q,r,v1,v2,Bo,B1,B2,hb,kz,hq,o1,o2,nd,fW,ef,fe⟩:=hM.top hf;obtain⟨p,cc,q',d,rfl,hcs,fM,ji,hl2⟩:=D6.form;have QK:M.ag.length=fs.length+1:=by rw[hf];simp
 have r1:rd h bm 1=some (.slice (some ⟨bf,0,none⟩) (fs.length+1) c):=bE hb (i:=1) (by simp) rfl;have r2:rd h bf (fs.length*4)=some (.int .i64 f.U):=bE kz (i:=0) (by omega) rfl;have hi:f.U.toNat < u.methods.length:=by omega
 have e0:=(hu.form)
 obtain⟨p',cc',QL,d',he,_,acn,_⟩:=e0;simp only[List.cons.injEq,Z_,true_and,and_true]at he;obtain⟨⟨rfl,rfl⟩,rfl,rfl⟩:=he;have e:=acn.get hi;obtain⟨bb,off,ms,wA,e1,e2⟩:=e;have oE:aV u f.U=u.methods[f.U.toNat]:=gU hi (by omega);have KV:=e2;obtain⟨p1,c1,p2,c2,p3,c3,p4,c4,e3,_⟩:=e2.form;subst e3;have Dh:=bK hM.le e1;have Au:0+(((fs.length+1:Nat):Int)-1).toNat*4=fs.length*4:=by omega
 have yV:rd h bf (0+(((fs.length+1:Nat):Int)-1).toNat*4)=some (.int .i64 f.U):=by rw[Au];exact r2
 refine bZ au func118 VR VS rfl ?_;conv=>whnf
 repeat' ((first|refine ld r1 ?_|refine ld yV ?_|refine aG wA ?_|refine dJ Dh ?_|refine aq ?_|refine ah ?_|refine ptr ?_)<;>conv=>whnf)
 refine ec (stp bf (0+(((fs.length+1:Nat):Int)-1).toNat*4) bm [.int .i64 u.methods[f.U.toNat].cls,.int .i64 u.methods[f.U.toNat].fG,.slice p1 u.methods[f.U.toNat].args.length c1,.int .i64 u.methods[f.U.toNat].out,.int .i64 u.methods[f.U.toNat].locals,.slice p2 u.methods[f.U.toNat].code.length c2,.slice p3 u.methods[f.U.toNat].aQ.length c3,.slice p4 u.methods[f.U.toNat].catches.length c4]
  [.slice p u.J.length cc,.slice q' u.methods.length d]) rfl (λbs h1 Av hh l1 hg=>?_)
 conv=>whnf
 have ye:=hM.mono l1;refine⟨l1,bs,bf,_,rfl,Av,⟨ye,hf,⟨Au,c,aX l1 r1⟩,⟨_,_,_,hg,hu,by rw[oE];exact KV⟩,λhx=>?_⟩⟩;obtain⟨o,ho⟩:=hM.in bs hx;rw[Av]at ho;cases ho
theorem gV.lens {h0 h:Heap} {bm:Nat} {pre post:List Value} {M:bM} {B:List Nat} {fs:List bQ} {f:bQ} (hM:gV h0 h bm pre post M B) (hf:M.ag=fs++[f]) :
  ∃ tm vo vs bf c t q r v1 v2 B1 B2,h bm=some (.cells (pre++ay vo (.slice (some ⟨bf,0,none⟩) (fs.length+1) c) vs M++post).toArray tm (0,0)) /\
   h bf=some (.cells (q++[.int .i64 f.U,.int .i64 f.pc,v1,v2]++r).toArray t (0,0))/\q.length=fs.length*4/\cj h v1 f.locals B1/\cj h v2 f.stack B2/\Nd (B1++B2)/\(∀ b∈bf::(B1++B2),h0 b=none/\b∈B) /\
   (∀ b,b∈B1++B2->b≠bf/\b≠bm)/\bf≠bm /\
   ∀ h' f' AQ uB jz ie,h' bf=some (.cells (q++[.int .i64 f'.U,.int .i64 f'.pc,AQ,uB]++r).toArray t (0,0))->(∀ b,b ∉ bf::(B1++B2)->h b≠none->h' b=h b)->cj h' AQ f'.locals jz->cj h' uB f'.stack ie ->
    (∀ b∈jz++ie,b∈B1++B2\/h b=none)->Nd (jz++ie)->∃ B',gV h0 h' bm pre post {M with ag:=fs++[f']} B'/\Ev h h' (bm::B) (bm::B'):=by
 obtain⟨vo,vs,bf,c,tm,t,q,r,v1,v2,Bo,B1,B2,hb,kz,hq,o1,o2,nd,fW,ef,fe⟩:=hM.top hf;have js:∀ a,(bm::bf::(Bo++B1++B2)).count a<=1:=nd;have AR:∀ b,b∈B1++B2->b≠bf/\b≠bm/\b ∉ Bo:=by
  intro b bA;have hp:=W_.2 bA;have hc:=js b;simp only[Y_,X_]at hp hc;refine⟨?_,?_,?_⟩
  ·rintro rfl;simp at hc;omega
  ·rintro rfl;simp at hc;omega
  ·intro hx;have:=W_.2 hx;omega
 have R3:bf≠bm:=by
  rintro rfl;have hc:=js bf;simp[X_]at hc
 have hmB:∀ b,b≠bm->b∈bm::bf::(Bo++B1++B2)->b∈B:=by
  intro b cH bA;have:=(ef b).2 bA;simpa [cH]using this
 refine⟨tm,vo,vs,bf,c,t,q,r,v1,v2,B1,B2,hb,kz,hq,o1,o2,?_,?_,λb bA=>⟨(AR b bA).1,(AR b bA).2.1⟩,R3,?_⟩
 ·exact nd.less λa=>by simp only[Y_,X_];omega
 ·intro b bA;have hx:b∈bm::bf::(Bo++B1++B2):=by simp at bA ⊢;grind
  refine⟨hM.fr b ((ef b).2 hx),hmB b ?_ hx⟩;rcases List.mem_cons.1 bA with rfl|bA
  ·exact R3
  ·exact(AR b bA).2.1
 intro h' f' AQ uB jz ie k1 k2 k3 k4 k5 k6;have iR:h' bm=h bm:=k2 bm (by simp only[List.mem_cons,not_or];exact⟨λhx=>R3 hx.symm,λhx=>(AR _ hx).2.1 rfl⟩) (by rw[hb];simp);have nH:∀ b∈Bo,b ∉ bf::(B1++B2):=by
  intro b bA hx;rcases List.mem_cons.1 hx with rfl|hx
  ·have hc:=js b;have:=W_.2 bA;simp only[Y_,X_]at hc;simp at hc;omega
  ·exact(AR b hx).2.2 bA
 have u0:cR h h' Bo:=λb bA o ho=>by rw[k2 b (nH b bA) (by rw[ho];simp)];exact ho
 have hnd:Nd (bm::bf::(Bo++jz++ie)):=by
  have:=Nd.swap (A:=bm::bf::Bo) (X:=B1++B2) (X':=jz++ie) (nd.perm λa=>by simp only[Y_,X_];omega) k6 (λb bA=>?_)
  ·exact this.perm λa=>by simp only[Y_,X_];omega
  ·rcases k5 b bA with hx|hx
   ·exact .inl hx
   ·refine .inr λhy=>?_;obtain⟨o,ho⟩:=fW b (by simp at hy ⊢;grind);rw[hx]at ho;cases ho
 have Fm:Ev h h' (bm::B) (bm::bf::(Bo++jz++ie)):=by
  refine⟨λb bA hn=>?_,λb bA=>?_⟩
  ·refine k2 b (λhx=>hn ((ef b).2 (by simp at hx ⊢;grind))) bA
  ·have:b∈jz++ie\/b∈bm::bf::Bo:=by simp at bA ⊢;grind
   rcases this with hx|hx
   ·rcases k5 b hx with hy|hy
    ·exact .inl ((ef b).2 (by simp at hy ⊢;grind))
    ·exact .inr hy
   ·exact .inl ((ef b).2 (by simp at hx ⊢;grind))
 exact fe h' f' AQ uB jz ie iR k1 k3 k4 u0 hnd Fm
theorem yf {h:Heap} {b off:Nat} {pre x post:List Value} {v:Value} {t:TypeId} {K:Heap->Prop} (hb:h b=some (.cells (pre++x++post).toArray t (0,0))) {i:Nat} (hn:off=pre.length+i) (hi:i < x.length)
  (hk:K (h.set b (.cells (pre++x.set i v++post).toArray t (0,0)))):St h b off [v] K:=by
 refine st hb (by simp;omega) ?_;rw[jZ hn hi];exact hk
def gO (u:aO) (to:Int) (aR:List Vl):bQ:=⟨to,0,aR++List.replicate ((aV u to).locals.toNat-aR.length) cU,[]⟩
def jA (u:aO) (to:Int) (aR:List Vl) (M:bM):Except Int bM:=if 4<=M.ag.length then .error 6 else .ok {M with ag:=M.ag++[gO u to aR]}
def qk (h0 h:Heap) (bm:Nat) (B:List Nat) (r:Except Int bM):Out->Heap->Prop:=λo h'=>match o with
 | .ret _=>∃ M',r=.ok M'/\∃ B',gV h0 h' bm [] [] M' B'/\Ev h h' (bm::B) (bm::B')
 | .lY c=>∃ k,r=.error k/\c=j5 k/\Pn h0 bm h'
theorem Gg (n:Nat):(List.replicate n cU).map bR=List.replicate n [Value.bool false,.int .i64 0]:=by rw[List.map_replicate];rfl
theorem Ec (h0 h:Heap) (bs bm bf off:Nat) (u:aO) (m:cL) (fs:List bQ) (f:bQ) (M:bM) (B:List Nat) (to:Int) (aR:List Vl) (vt:Value) (Bt:List Nat) (hS:lB h0 h bs bm bf off u m fs f M B)
  (ot:cj h vt aR Bt) (jV:∀ b∈Bt,b ∉ bm::B/\b≠bs) (Di:0<=to/\to < u.methods.length) (mX:(aR.length:Int)<=(aV u to).locals/\(aV u to).locals<=3) :
  cZ prog 188 [.pointer (some ⟨bs,0,none⟩),.int .i64 to,vt] h (qk h0 h bm B (jA u to aR M)):=by
 obtain⟨pt,ct,rfl,_⟩:=ot.form;have gE:=eL bR aR;obtain⟨r1,r2,⟨c0,r3⟩,p,cc,q,d,hu,r9,iM,_⟩:=hS.mp;have QK:M.ag.length=fs.length+1:=by rw[hS.ag];simp
 have hi:to.toNat < u.methods.length:=by omega
 obtain⟨p',c',q',d',he,_,fM,_⟩:=hu.form;simp only[List.cons.injEq,Z_,true_and,and_true]at he;obtain⟨⟨rfl,rfl⟩,rfl,rfl⟩:=he;have e:=fM.get hi;obtain⟨bb,oo,ms,wA,e1,e2⟩:=e;have oE:aV u to=u.methods[to.toNat]:=gU hi (by omega);obtain⟨p1,c1,p2,c2,p3,c3,p4,c4,e3,_⟩:=e2.form;subst e3;have r4:rd h bb (oo+to.toNat*8+4)=some (.int .i64 (aV u to).locals):=by rw[oE];exact aX hS.ma.le (aE e1 (i:=4) rfl)
 refine outs au func188 XI XJ rfl ?_;conv=>whnf
 repeat' ((first|refine ld r2 ?_|refine ld r3 ?_|refine aq ?_|refine ah ?_|refine ptr ?_)<;>conv=>whnf)
 apply ax<;>intro g;all_goals conv=>whnf
 ·exact⟨6,by rw[jA,if_pos (by omega)],rfl,hS.ma.pn⟩
 repeat' ((first|refine ld iM ?_|refine aG wA ?_|refine ld r4 ?_|refine aq ?_|refine ah ?_|refine ptr ?_)<;>conv=>whnf)
 refine ob ⟨rfl,by omega,by show(_:Int)*((16:Nat):Int)<=_;omega,by omega⟩ ?_;conv=>whnf
 obtain⟨n,hn⟩:∃ n,n=(aV u to).locals.toNat:=⟨_,rfl⟩
 rw[<-hn];have htn:aR.length<=n:=by omega
 refine ec ((List.replicate n cU).map bR).flatten (by rw[Gg]) (λb h1 hb hh l1 hg=>?_);conv=>whnf
 have fW:(pt=none/\(aR.map bR).flatten=[])\/∃ b2 o2,pt=some ⟨b2,o2,none⟩/\fj h1 b2 o2 (Nat.min (aR.map bR).length n*2)=some (aR.map bR).flatten:=by
  have R7:Nat.min (aR.map bR).length n=aR.length:=by rw[List.length_map];exact Nat.min_eq_left htn
  have pI:=bW (sz:=2) (xs:=aR.map bR) (by simp[bR]);rw[R7];obtain⟨_,⟨he,hx,_⟩|⟨b2,c2,rest,t,he,_,fO,_,_⟩⟩:=ot
  ·simp only[Z_]at he;exact .inl ⟨he.1,by rw[hx];rfl⟩
  ·simp only[Z_]at he;refine .inr ⟨b2,0,he.1,?_⟩;rw[List.length_map]at pI;rw[bO (l1 _ _ fO) _ _ (by simp only[U_];omega),List.drop_zero,<-pI,List.take_left]
 have qU:eS ((List.replicate n cU).map bR).flatten 0 (aR.map bR).flatten=((aR++List.replicate (n-aR.length) cU).map bR).flatten:=by
  have pI:=bW (sz:=2) (xs:=aR.map bR) (by simp[bR]);have hfz:=bW (sz:=2) (xs:=(List.replicate n cU).map bR) (by simp[bR]);rw[List.length_map]at pI hfz;have:=iK (aR.map bR).flatten [] ((List.replicate n cU).map bR).flatten (by rw[pI,hfz];simp;omega);simp only[List.nil_append,List.length_nil]at this;rw[this,List.map_append,List.flatten_append];congr 1
  have Dj:List.replicate n cU=List.replicate aR.length cU++List.replicate (n-aR.length) cU:=by rw[List.replicate_append_replicate];congr 1;omega
  conv=>lhs;rw[Dj,List.map_append,List.flatten_append]
  have hfy:=bW (sz:=2) (xs:=(List.replicate aR.length cU).map bR) (by simp[bR]);rw[List.length_map,List.length_replicate]at hfy;rw[pI,<-hfy,List.drop_left]
 refine FT (vs:=(aR.map bR).flatten) au rfl rfl rfl rfl rfl fW hg ?_ (jM aR) ?_
 ·have pI:=bW (sz:=2) (xs:=aR.map bR) (by simp[bR]);have hfz:=bW (sz:=2) (xs:=(List.replicate n cU).map bR) (by simp[bR]);rw[List.length_map]at pI hfz;rw[pI,hfz];simp;omega
 rw[qU];obtain⟨h2,iD⟩:∃ h2,h2=h1.set b (.cells ((aR++List.replicate (n-aR.length) cU).map bR).flatten.toArray 31 (0,0)):=⟨_,rfl⟩
 rw[<-iD];have YY:h2=h.set b (.cells ((aR++List.replicate (n-aR.length) cU).map bR).flatten.toArray 31 (0,0)):=by rw[iD,hh,set_set]
 have l2:h.le h2:=by rw[YY];exact Heap.aP (z_ h) hb
 have YZ:cj h2 (.slice (some ⟨b,0,none⟩) n n) (aR++List.replicate (n-aR.length) cU) [b] :=
  jC (t:=31) (λx hx=>by obtain⟨a,_,rfl⟩:=List.mem_map.1 hx;rfl) (by simp;omega) (by rw[YY];exact dh _ _ _)
 conv=>whnf
 have Af:=hS.ma.mono l2;obtain⟨t,po,co,vo,vs,iR,grow⟩:=Af.AU (by omega);have yV:=aX l2 r2;have Ed:rd h2 bm 1=some (.slice po M.ag.length co):=bE iR (i:=1) (by simp) rfl;have kz:∀ b'∈[b],b' ∉ bm::B/\h0 b'=none:=by
  intro b' bA;rw[V_]at bA;subst bA;refine⟨λhx=>?_,?_⟩
  ·obtain⟨o,ho⟩:=hS.ma.in b' hx;rw[hb]at ho;cases ho
  ·cases hh:h0 b' with
   | none=>rfl
   | some o=>rw[hS.ma.le b' o hh]at hb;cases hb
 have Av:bs≠b:=by
  rintro rfl;unfold rd at r1;rw[hb]at r1;cases r1
 have y5:h2 bs≠none:=by
  intro hx;unfold rd at yV;rw[hx]at yV;cases yV
 repeat' ((first|exact trivial|refine ld yV ?_|refine ld Ed ?_|apply T_)<;>conv=>whnf)
 all_goals
  refine grow (gO u to aR) [b] _ _ ⟨_,_,[b],[],rfl,?_,⟨by simp[gO],.inl ⟨rfl,by simp[gO],rfl⟩⟩,rfl⟩ YZ.nd kz rfl rfl rfl rfl (by simp) ?_
  ·unfold gO;rw[<-hn];exact YZ
  rintro p' c' h3 e1 e2 e3 ⟨B',ND,sY⟩;have Sc:rd h3 bs 11=some (.pointer (some ⟨bm,0,none⟩)):=by
   unfold rd at yV ⊢;rw[e2 bs (λhx=>hS.out (by simp[hx])) (by simpa using Av) y5];exact yV
  have s7:=e1.trans iR;conv=>whnf
  (try refine ld Sc ?_)
  conv=>whnf
  refine yf s7 (i:=1) rfl (by simp[ay]) ?_;conv=>whnf
  exact⟨_,by rw[jA,if_neg (by omega)],B',ND,(Ev.of_le l2 ((bm::B)++[b]) (λx hx=>(u_.1 hx).imp id (λhx=>by rw[V_.1 hx];exact hb))).trans sY⟩
theorem lP {h:Heap} {b off:Nat} {pre x post:List Value} {v:Value} {t:TypeId} {K:Heap->Prop} (hb:h b=some (.cells (pre++x++post).toArray t (0,0))) {i:Nat} (x':List Value) (hn:off=pre.length+i) (hi:i < x.length) (hx:x.set i v=x')
  (hk:∀ h',h'=h.set b (.cells (pre++x'++post).toArray t (0,0))->h' b=some (.cells (pre++x'++post).toArray t (0,0))->K h'):St h b off [v] K:=by
 subst hx;exact yf hb hn hi (hk _ rfl (dh _ _ _))
theorem Ag {h:Heap} {b off:Nat} {cs:List Value} {vs:List Value} {t:TypeId} {K:Heap->Prop} (hb:h b=some (.cells cs.toArray t (0,0))) (jU:List Value) (hl:off+vs.length<=cs.length) (hx:eS cs off vs=jU)
  (hk:∀ h',h'=h.set b (.cells jU.toArray t (0,0))->h' b=some (.cells jU.toArray t (0,0))->K h'):St h b off vs K:=by
 subst hx;exact st hb hl (hk _ rfl (dh _ _ _))
def rE (v:Vl) (fs:List bQ) (M:bM):Except Int bM:=match fs.getLast? with
 | none=>.ok {M with ag:=[],fin:=1,out:=v}
 | some g=>if g.stack.length < 4 then .ok {M with ag:=fs.dropLast++[{g with stack:=g.stack++[v],pc:=g.pc+1}]}else .error 0
theorem AV (v:Vl) (M:bM):rE v [] M=.ok {M with ag:=[],fin:=1,out:=v}:=rfl
theorem sJ (v:Vl) (gs:List bQ) (g:bQ) (M:bM):rE v (gs++[g]) M=if g.stack.length < 4 then .ok {M with ag:=gs++[{g with stack:=g.stack++[v],pc:=g.pc+1}]}else .error 0:=by simp[rE]
theorem Sd (h0 h:Heap) (bs bm bf off:Nat) (u:aO) (m:cL) (fs:List bQ) (f:bQ) (M:bM) (B:List Nat) (x:Vl) (hS:lB h0 h bs bm bf off u m fs f M B) (hl:M.ag.length<=1000)
  (qO:∀ g∈fs,(0<=g.U/\g.U < u.methods.length)/\0<=g.pc/\g.pc<=1000) :
  cZ prog 190 [.pointer (some ⟨bs,0,none⟩),.agg #[.bool x.ref,.int .i64 x.n]] h (qk h0 h bm B (rE x fs M)):=by
 obtain⟨r1,r2,⟨c0,r3⟩,p,cc,q,d,hu,r9,iM,R9,_⟩:=hS.mp;have QK:M.ag.length=fs.length+1:=by rw[hS.ag];simp
 obtain⟨t,pf,c,vo,vs,iR,gF,B1,ye,gh⟩:=hS.ma.OJ hS.ag;have Ed:rd h bm 1=some (.slice pf (fs.length+1) c):=bE iR (i:=1) (by simp) rfl;have Av:bs≠bm:=λhx=>hS.out (by simp[hx]);refine outs au func190 XN XO rfl ?_;conv=>whnf
 repeat' ((first|refine ld r2 ?_|refine ld Ed ?_|refine aq ?_|refine ah ?_|refine ptr ?_)<;>conv=>whnf)
 have Lb:(((fs.length+1:Nat):Int)-1).toNat=fs.length:=by omega
 refine lP iR (i:=1) (ay vo (.slice pf fs.length c) vs M) rfl (by simp[ay]) (by rw[Lb];rfl) (λh1 gS hg1=>?_);rw[<-gS]at ye gh;have yV:rd h1 bs 11=some (.pointer (some ⟨bm,0,none⟩)):=by rw[gS,nO Av];exact r2
 have Se:fj h1 bs 9 2=some [.slice p u.J.length cc,.slice q u.methods.length d]:=by
  have e9:rd h1 bs 9=some (.slice p u.J.length cc):=by rw[gS,nO Av];exact r9
  have e10:rd h1 bs 10=some (.slice q u.methods.length d):=by rw[gS,nO Av];exact iM
  simp only[fj,e9,e10]
 have r4:rd h1 bm 1=some (.slice pf fs.length c):=bE hg1 (i:=1) rfl rfl;conv=>whnf
 refine ld yV ?_;conv=>whnf
 refine ld r4 ?_;conv=>whnf
 apply ax<;>intro g;all_goals conv=>whnf
 ·have Lc:fs=[]:=List.eq_nil_of_length_eq_zero (by omega);subst Lc;refine ld yV ?_;conv=>whnf
  refine lP hg1 (i:=4) (ay vo (.slice pf 0 c) vs {M with fin:=1}) rfl (by simp[ay]) rfl (λh2 iD tY=>?_);have Sc:rd h2 bs 11=some (.pointer (some ⟨bm,0,none⟩)):=by rw[iD,nO Av];exact yV
  conv=>whnf
  refine ld Sc ?_;conv=>whnf
  refine Ag tY ([]++ay vo (.slice pf 0 c) vs {M with fin:=1,out:=x}++[]) (by simp[ay]) rfl (λh3 kB Le=>?_);obtain⟨t',yW,Ea,og,bA,_,_,_,hint⟩:=ye.ints;rw[hg1]at bA;simp only[v_,Obj.cells.injEq,Array.mk.injEq,List.nil_append,List.append_nil,ay,List.cons.injEq,and_true,true_and,List.toArray]at bA;obtain⟨⟨rfl,rfl,rfl⟩,rfl⟩:=bA;have fL:=hint {M with ag:=[],fin:=1,out:=x} rfl rfl rfl;obtain⟨Af,iE⟩:=fL;have Ee:h3=h1.set bm (.cells ([]++ay vo (.slice pf ([]:List bQ).length c) vs {M with ag:=[],fin:=1,out:=x}++[]).toArray t (0,0)):=by
   rw[kB,iD,set_set];rfl
  rw[<-Ee]at Af iE;conv=>whnf
  exact⟨_,AV x M,_,Af,gh.trans iE⟩
 ·obtain⟨gs,gl,rfl⟩:∃ gs gl,fs=gs++[gl]:=by
   rcases List.eq_nil_or_concat fs with rfl|⟨gs,gl,rfl⟩
   ·simp at g
   ·exact⟨gs,gl,by simp⟩
  have Dk:=qO gl (by simp);repeat' ((first|refine dJ Se ?_|refine ld yV ?_|refine aq ?_|refine ah ?_|refine ptr ?_)<;>conv=>whnf)
  refine cX (vm h0 h1 bm _ u gs gl _ B1 ye hu rfl Dk.1 (by simp at QK ⊢;omega)) ?_;rintro v h2 ⟨l2,bs2,bf2,FY,rfl,y5,lN⟩;refine⟨l2,?_⟩;conv=>whnf
  refine dK (qg h0 h2 bs2 bm bf2 FY u _ gs gl _ B1 x lN) ?_ ?_
  ·rintro v h3 ⟨k1,B3,NB,sY⟩;conv=>whnf
   obtain⟨t3,q3,rr3,v13,p3,c3,B23,Y0,hq3,o23,adH,s1,s2,fe⟩:=NB.cP;have s3:rd h3 bf2 (FY+1)=some (.int .i64 gl.pc):=bE Y0 (i:=1) (by omega) rfl;obtain⟨e1,e2,e3,B4,hS4,Ah⟩:=fe h3 _ B23 (gl.stack++[x]) (gl.pc+1) (λ_ _ _=>rfl) o23 (λb hb=>.inl hb);refine ld s1 ?_;conv=>whnf
   refine ld s3 ?_;conv=>whnf
   refine ah ?_;conv=>whnf
   refine yf Y0 (i:=1) (by omega) (by simp) ?_;conv=>whnf
   refine⟨_,by rw[sJ,if_pos k1],B4,?_,gh.trans ((Ev.of_le l2 (bm::B1) (λb hb=>.inl hb)).trans (sY.trans Ah))⟩;exact hS4.ma
  ·rintro c h' ⟨k1,k2,k3⟩;exact⟨0,by rw[sJ,if_neg (by omega)],k2,k3⟩
end Go.Proofs
