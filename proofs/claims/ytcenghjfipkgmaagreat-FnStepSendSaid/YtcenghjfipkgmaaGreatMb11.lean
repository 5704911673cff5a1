/- Lemmas. -/
import Derived.Test.YtcenghjfipkgmaaGreatMb10
set_option linter.unusedSimpArgs false
set_option linter.unusedVariables false
namespace Go.Proofs
open Go.Vc Go.Proofs.Tryz
set_option maxRecDepth 100000
set_option maxHeartbeats 4000000
def ObA (u:aO) (n i:Nat) (o:Ob):Prop:=HO u n o/\(i < 7->o.cls=1)
theorem kY (u:aO) (M:bM):oh u M↔((0<=M.steps/\M.steps<=200)/\(7<=M.objs.length/\M.objs.length<=207)/\M.ag.length<=4/\M.said.length<=200)/\kE M.objs.length M.out/\(∀ i (hi:i < M.objs.length),ObA u M.objs.length i M.objs[i])/\(∀ f∈M.ag,xH u M.objs.length f)/\(∀ n∈M.said,isWord n=true)/\zf M:=by
 have low:∀(hl:7<=M.objs.length) (k:Int) (h0:0 < k) (h1:k<=7),aF M.objs k=M.objs[(k-1).toNat]'(by omega):=λhl k h0 h1=>by
  unfold aF;rw[S_,w_ (by omega)];rfl
 constructor
 ·intro h;refine⟨⟨h.steps,h.len,h.nf,h.kG⟩,h.out,λi hi=>⟨h.objs _ (x_ hi),λh7=>?_⟩,h.iN,h.said,h.fin⟩;have:=h.low ((i:Int)+1) (by omega) (by omega);rw[low h.len.1 _ (by omega) (by omega)]at this;simp only[show((i:Int)+1-1).toNat=i by omega]at this;exact this
 ·rintro⟨⟨h1,h2,h3,h4⟩,h5,h6,h7,h8,h9⟩;refine⟨h1,h2,h3,h4,h5,λo ho=>?_,λk k0 k1=>?_,h7,h8,h9⟩
  ·obtain⟨i,hi,rfl⟩:=List.mem_iff_getElem.1 ho;exact(h6 i hi).1
  ·rw[low h2.1 k k0 k1];exact(h6 _ (by omega)).2 (by omega)
theorem take_one {α:Type} {l:List α} {i:Nat} {Q:α->Prop} (hi:i < l.length) (hj:∀ x∈l.take i,Q x) (hq:Q l[i]):∀ x∈l.take (i+1),Q x:=λx hx=>by
 rw[List.take_add_one,u_]at hx;rcases hx with hx|hx
 ·exact hj x hx
 ·rw[w_ hi]at hx;simp at hx;subst hx;exact hq
theorem BI (us mc:List Value) (u:aO) (M:bM) (h:Heap) (hu:dG h us u) (hM:xg h mc M):Pure prog 20 [.agg ⟨us⟩,.agg ⟨mc⟩] h (tf (cz u/\oh u M)):=by
 have iw:=hu;have UI:=wF _ u h hu;obtain⟨p,cc,q,d,rfl,hcs,fM,ji,hl2⟩:=hu.form;obtain⟨vo,vf,vs,rfl,w1,w2,w3⟩:=hM;have hO:=Fb M.out M.objs.length h;unfold bR at hO;obtain⟨po,co,rfl,GO,Hw⟩:=w1.len;obtain⟨pf,cf,rfl,UJ,Eh⟩:=w2.len;obtain⟨ps,cs,rfl,UK,UL⟩:=w3.len;have aaG:=Nh (.slice po M.objs.length co) (.slice ps M.said.length cs) pf cf M h;refine jh au func20 F20 aa3 rfl ?_;unfold ay at aaG ⊢;conv=>whnf
 by_cases hU:cz u
 ·rw[fk hU]at UI;refine aj UI ?_;conv=>whnf
  by_cases hA:(0<=M.steps/\M.steps<=200)/\(7<=M.objs.length/\M.objs.length<=207)/\M.ag.length<=4/\M.said.length<=200
  ·by_cases cO:kE M.objs.length M.out
   ·rw[fk cO]at hO;repeat' ((first|refine cN ?_|refine bH ?_|refine aj (dP _ _ _ h) ?_|refine aj hO ?_)<;>conv=>whnf)
    refine fh [2,3,5,6] [2,3] (λi:Nat=>i<=M.objs.length/\∀ j (hj:j < M.objs.length),j < i->ObA u M.objs.length j M.objs[j]) (λi=>M.objs.length-i)
     (λi=>([.l 2 0,.l 3 0,.v (.int .i64 M.objs.length),.v (.int .i64 i)],[some [.slice p u.J.length cc,.slice q u.methods.length d],some [.slice po M.objs.length co,.slice pf M.ag.length cf,.slice ps M.said.length cs,.int .i64 M.steps,.int .i64 M.fin,.bool M.out.ref,.int .i64 M.out.n]],h)) 0 ⟨Nat.zero_le _,λ_ _ h=>absurd h (by omega)⟩ rfl ?_
    rintro i ⟨hi,hj⟩;conv=>whnf
    apply ax<;>intro g;all_goals conv=>whnf
    ·have bV:i < M.objs.length:=by omega
     obtain⟨b,off,xs,hp,r1,m1⟩:=w1.get bV;have bX:=Nf _ u M.objs[i] xs M.objs.length h iw hU m1;obtain⟨v,rfl,_⟩:=m1;have ra:=aE r1 (i:=0) rfl;by_cases cW:HO u M.objs.length M.objs[i]
     ·rw[fk cW]at bX;repeat' ((first|apply ax<;>intro _|apply aT<;>intro _|refine aG hp ?_|refine aq ?_|refine dJ r1 ?_|refine ld ra ?_|refine aK bX ?_|refine ah ?_|apply T_|exact trivial)<;>conv=>whnf)
      ·exact⟨bY (λhx=>by have:=(((kY u M).1 hx.2).2.2.1 i bV).2 (by omega);omega),z_ h⟩
      all_goals exact dm (i+1) ⟨by omega,λj hl hjj=>by
       by_cases jj:j=i
       ·subst jj;exact⟨cW,by omega⟩
       ·exact hj j hl (by omega)⟩ (by omega) rfl
     ·rw[dD cW]at bX;repeat' ((first|refine aG hp ?_|refine aq ?_|refine dJ r1 ?_|refine ld ra ?_|refine aK bX ?_|apply T_|exact trivial)<;>conv=>whnf)
      exact⟨bY λhx=>cW (((kY u M).1 hx.2).2.2.1 i bV).1,z_ h⟩
    have Fl:i=M.objs.length:=by omega
    subst Fl;refine fh [2,3,5,7] [2,3] (λi:Nat=>i<=M.ag.length/\∀ f∈M.ag.take i,xH u M.objs.length f) (λi=>M.ag.length-i)
     (λi=>([.l 2 0,.l 3 0,.v (.int .i64 M.objs.length),.v (.int .i64 i)],[some [.slice p u.J.length cc,.slice q u.methods.length d],some [.slice po M.objs.length co,.slice pf M.ag.length cf,.slice ps M.said.length cs,.int .i64 M.steps,.int .i64 M.fin,.bool M.out.ref,.int .i64 M.out.n]],h)) 0 ⟨Nat.zero_le _,by simp⟩ rfl ?_
    rintro i ⟨hi,TU⟩;conv=>whnf
    apply ax<;>intro g;all_goals conv=>whnf
    ·have bV:i < M.ag.length:=by omega
     obtain⟨b,off,xs,hp,r1,m1⟩:=w2.get bV;have bX:=Dc _ u M.ag[i] xs M.objs.length h iw hU m1;obtain⟨v1,v2,rfl,_⟩:=m1;by_cases cW:xH u M.objs.length M.ag[i]
     ·rw[fk cW]at bX;repeat' ((first|refine aG hp ?_|refine aq ?_|refine dJ r1 ?_|refine aK bX ?_|refine ah ?_|apply T_|exact trivial)<;>conv=>whnf)
      exact dm (i+1) ⟨by omega,take_one bV TU cW⟩ (by omega) rfl
     ·rw[dD cW]at bX;repeat' ((first|refine aG hp ?_|refine aq ?_|refine dJ r1 ?_|refine aK bX ?_|apply T_|exact trivial)<;>conv=>whnf)
      exact⟨bY λhx=>cW (((kY u M).1 hx.2).2.2.2.1 _ (x_ bV)),z_ h⟩
    have Fl:i=M.ag.length:=by omega
    subst Fl;rw[List.take_length]at TU;refine fh [3,8] [3] (λi:Nat=>i<=M.said.length/\∀ n∈M.said.take i,isWord n=true) (λi=>M.said.length-i)
     (λi=>([.l 3 0,.v (.int .i64 i)],[some [.slice po M.objs.length co,.slice pf M.ag.length cf,.slice ps M.said.length cs,.int .i64 M.steps,.int .i64 M.fin,.bool M.out.ref,.int .i64 M.out.n]],h)) 0 ⟨Nat.zero_le _,by simp⟩ rfl ?_
    rintro i ⟨hi,hjs⟩;conv=>whnf
    apply ax<;>intro g;all_goals conv=>whnf
    ·have bV:i < M.said.length:=by omega
     obtain⟨b,off,xs,hp,r1,m1⟩:=w3.get bV;have bX:=rj M.said[i] h;unfold C9 at m1;subst m1;have ra:=aE r1 (i:=0) rfl;by_cases cW:isWord M.said[i]=true
     ·rw[cW]at bX;repeat' ((first|refine aG hp ?_|refine aq ?_|refine ld ra ?_|refine aj bX ?_|refine ah ?_)<;>conv=>whnf)
      exact dm (i+1) ⟨by omega,take_one bV hjs cW⟩ (by omega) rfl
     ·rw[show isWord M.said[i]=false by simpa using cW]at bX;repeat' ((first|refine aG hp ?_|refine aq ?_|refine ld ra ?_|refine aj bX ?_)<;>conv=>whnf)
      exact⟨bY λhx=>cW (((kY u M).1 hx.2).2.2.2.2.1 _ (x_ bV)),z_ h⟩
    have Fl:i=M.said.length:=by omega
    subst Fl;rw[List.take_length]at hjs;refine aj aaG ?_;conv=>whnf
    refine⟨?_,z_ h⟩;by_cases cE:zf M
    ·rw[fk cE];exact dZ (T_ hU <| (kY u M).2 ⟨hA,cO,λj hl=>hj j hl hl,TU,hjs,cE⟩)
    ·rw[dD cE];exact bY λhx=>cE ((kY u M).1 hx.2).2.2.2.2.2
   ·rw[dD cO]at hO;repeat' ((first|refine cN ?_|refine bH ?_|refine aj (dP _ _ _ h) ?_|refine aj hO ?_)<;>conv=>whnf)
    exact⟨bY λhx=>cO ((kY u M).1 hx.2).2.1,z_ h⟩
  ·by_cases cO:kE M.objs.length M.out
   ·rw[fk cO]at hO;repeat' ((first|apply ax<;>intro _|apply aT<;>intro _|refine aj (dP _ _ _ h) ?_|refine aj hO ?_|(exfalso;omega)|exact⟨bY λhx=>hA ((kY u M).1 hx.2).1,z_ h⟩)<;>conv=>whnf)
   ·rw[dD cO]at hO;repeat' ((first|apply ax<;>intro _|apply aT<;>intro _|refine aj (dP _ _ _ h) ?_|refine aj hO ?_|(exfalso;omega)|exact⟨bY λhx=>hA ((kY u M).1 hx.2).1,z_ h⟩)<;>conv=>whnf)
 ·rw[dD hU]at UI;refine aj UI ?_;conv=>whnf
  exact⟨bY λhx=>hU hx.1,z_ h⟩
theorem JK (r:Bool) (k:Int) (n:Int) (h:Heap):Pure prog 82 [.agg #[.bool r,.int .i64 k],.int .i64 n] h (tf (r=true->0<=k/\k<=n)):=by
 refine jh au func82 F82 abW rfl ?_;cases r
 all_goals conv=>whnf
 ·exact⟨dZ (λh=>nomatch h),z_ h⟩
 ·repeat' ((first|apply ax<;>intro _|apply aT<;>intro _)<;>conv=>whnf)
  all_goals first|exact⟨dZ (λ_=>by omega),z_ h⟩|exact⟨bY (λhx=>by have:=hx rfl;omega),z_ h⟩|exact⟨gy ⟨λhx=>by have:=hx rfl;omega,λhx _=>by omega⟩,z_ h⟩
theorem G9 (c:Value) (q:Option Addr) (n d:Nat) (k:Int) (h:Heap):Pure prog 84 [.agg #[c,.slice q n d],.int .i64 k] h (tf (0<=k/\k < n)):=by
 refine jh au func84 F84 abY rfl ?_;conv=>whnf
 repeat' ((first|apply ax<;>intro _|apply aT<;>intro _)<;>conv=>whnf)
 all_goals first|exact⟨dZ (by omega),z_ h⟩|exact⟨bY (by omega),z_ h⟩|exact⟨gy (by omega),z_ h⟩
theorem Az {K:Value->Heap->Prop} {E:List PanicEntry->Heap->Prop} {p:Option Addr} {n c:Nat} {cs:List eD} {x:Int} {h:Heap} (hr:fP h (.slice p n c) cs) (ok:cI cs) (h0:0<=x/\x < cs.length) (hK:∀ h' p' c',h.le h'->K (.slice p' (dw cs x).length c') h') :
  iF prog 146 [.slice p n c,.int .i64 x] h K E:=cX (kU _ p n c cs x h hr ok h0.1 h0.2 (Nat.lt_succ_self _)) (λv h' hh=>by
 obtain⟨l1,B,own,_⟩:=hh;obtain⟨p',c',rfl,_⟩:=own.form;rw[List.length_map];exact⟨l1,hK h' p' c' l1⟩)
def ObC (u:aO) (o:Ob):Prop:=((o.cls = -1\/o.cls = -2)/\o.aW.length<=6)\/(0<=o.cls/\o.cls < u.J.length/\o.aW.length=(dw u.J o.cls).length)
theorem P5 (p:Option Addr) (cc:Nat) (u:aO) (o:Ob) (pv:Option Addr) (cv:Nat) (h:Heap) (hcs:Row 2 Ap h (.slice p u.J.length cc) u.J) (hT:cz u):Pure prog 98 [.slice p u.J.length cc,.agg #[.int .i64 o.cls,.slice pv o.aW.length cv]] h (tf (ObC u o)):=by
 have TT:=hT.1;refine jh au func98 F98 acb rfl ?_;unfold ObC;conv=>whnf
 by_cases c1:0<=o.cls/\o.cls < u.J.length
 ·have hc:=oL p u.J.length cc o.cls h;rw[fk c1]at hc;repeat' ((first|refine bH ?_|refine aK hc ?_|refine Az hcs TT c1 (λh' p' c' l1=>?_)|apply T_|exact trivial)<;>conv=>whnf)
  all_goals exact⟨gy (by omega),by first|exact z_ h|assumption⟩
 ·have hc:=oL p u.J.length cc o.cls h;rw[dD c1]at hc;repeat' ((first|apply ax<;>intro _|refine aK hc ?_|apply T_|exact trivial)<;>conv=>whnf)
  all_goals first|exact⟨gy (by omega),z_ h⟩|exact⟨bY (by omega),z_ h⟩
theorem TV (x:Vl) (bm:Nat) (pf po:Option Addr) (no co:Nat) (vf vs:Value) (st fi on:Int) (orf:Bool) (t:TypeId) (h:Heap) (hb:h bm=some (.cells [.slice po no co,vf,vs,.int .i64 st,.int .i64 fi,.bool orf,.int .i64 on].toArray t (0,0))) :
  Pure prog 81 [.agg ⟨bR x⟩,.pointer (some ⟨bm,0,none⟩)] h (tf (kE no x)):=by
 obtain⟨r,k⟩:=x;unfold bR kE;refine jh au func81 F81 abV rfl ?_;have h1:=JK r k no h;have h2:=uS k h;cases r
 all_goals conv=>whnf
 ·refine aj h2 ?_;conv=>whnf
  refine⟨?_,z_ h⟩;by_cases hw:isWord k=true
  ·rw[hw];exact dZ (by simp[hw])
  ·have:isWord k=false:=by simpa using hw
   rw[this];exact bY (by simp[this])
 ·refine ld (bJ hb rfl) ?_;conv=>whnf
  refine aj h1 ?_;conv=>whnf
  refine⟨?_,z_ h⟩;by_cases hw:0<=k/\k<=no
  ·rw[fk (λ_=>hw)];exact dZ (by simp;omega)
  ·rw[dD (λhx=>hw (hx rfl))];exact bY (by simp;omega)
theorem Nj (l:List Vl) (v:Value) (bm:Nat) (Q:Vl->Prop) (h:Heap) (hv:Row 2 G7 h v l) (hQ:∀ x∈l,∀ xs,G7 h xs x->Pure prog 81 [.agg ⟨xs⟩,.pointer (some ⟨bm,0,none⟩)] h (tf (Q x))) :
  Pure prog 86 [v,.func (.func 81) #[] #[.pointer (some ⟨bm,0,none⟩)]] h (tf (∀ x∈l,Q x)):=by
 obtain⟨p,c,rfl,hc,hn⟩:=hv.len;refine jh au func86 F86 ab0 rfl ?_;conv=>whnf
 refine fh [1,7,8,9] [] (λi:Nat=>i<=l.length/\∀ x∈l.take i,Q x) (λi=>l.length-i)
  (λi=>([.v (.func (.func 81) #[] #[.pointer (some ⟨bm,0,none⟩)]),.v (.slice p l.length c),.v (.int .i64 l.length),.v (.int .i64 i)],[],h)) 0 ⟨Nat.zero_le _,by simp⟩ rfl ?_
 rintro i ⟨hi,hj⟩;conv=>whnf
 apply ax<;>intro g;all_goals conv=>whnf
 ·have bV:i < l.length:=by omega
  obtain⟨b,off,xs,hp,r1,m1⟩:=hv.get bV;have bX:=hQ _ (x_ bV) xs m1;unfold G7 at m1;subst m1;by_cases cW:Q l[i]
  ·rw[fk cW]at bX;repeat' ((first|refine aG hp ?_|refine aq ?_|refine dJ r1 ?_|refine aj bX ?_|refine ah ?_)<;>conv=>whnf)
   exact dm (i+1) ⟨by omega,take_one bV hj cW⟩ (by omega) rfl
  ·rw[dD cW]at bX;repeat' ((first|refine aG hp ?_|refine aq ?_|refine dJ r1 ?_|refine aj bX ?_|refine ah ?_)<;>conv=>whnf)
   exact⟨bY λhx=>cW (hx _ (x_ bV)),z_ h⟩
 ·have:i=l.length:=by omega
  subst this;rw[List.take_length]at hj;exact⟨dZ hj,z_ h⟩
theorem Nk (l:List Int) (v:Value) (Q:Int->Prop) (h:Heap) (hv:Row 1 C9 h v l) (hQ:∀ x∈l,∀ xs,C9 h xs x->Pure prog 33 [.int .i64 x] h (tf (Q x))) :
  Pure prog 92 [v,.func (.func 33) #[] #[]] h (tf (∀ x∈l,Q x)):=by
 obtain⟨p,c,rfl,hc,hn⟩:=hv.len;refine jh au func92 F92 ab6 rfl ?_;conv=>whnf
 refine fh [1,7,8,9] [] (λi:Nat=>i<=l.length/\∀ x∈l.take i,Q x) (λi=>l.length-i)
  (λi=>([.v (.func (.func 33) #[] #[]),.v (.slice p l.length c),.v (.int .i64 l.length),.v (.int .i64 i)],[],h)) 0 ⟨Nat.zero_le _,by simp⟩ rfl ?_
 rintro i ⟨hi,hj⟩;conv=>whnf
 apply ax<;>intro g;all_goals conv=>whnf
 ·have bV:i < l.length:=by omega
  obtain⟨b,off,xs,hp,r1,m1⟩:=hv.get bV;have bX:=hQ _ (x_ bV) xs m1;(unfold C9 at m1;subst m1;have ra:=aE r1 (i:=0) rfl)
  by_cases cW:Q l[i]
  ·rw[fk cW]at bX;repeat' ((first|refine aG hp ?_|refine aq ?_|refine ld ra ?_|refine aj bX ?_|refine ah ?_)<;>conv=>whnf)
   exact dm (i+1) ⟨by omega,take_one bV hj cW⟩ (by omega) rfl
  ·rw[dD cW]at bX;repeat' ((first|refine aG hp ?_|refine aq ?_|refine ld ra ?_|refine aj bX ?_|refine ah ?_)<;>conv=>whnf)
   exact⟨bY λhx=>cW (hx _ (x_ bV)),z_ h⟩
 ·have:i=l.length:=by omega
  subst this;rw[List.take_length]at hj;exact⟨dZ hj,z_ h⟩
theorem JL (l:List Ob) (v:Value) (Q:Ob->Prop) (h:Heap) (hv:Row 2 x8 h v l) (hQ:∀ x∈l,∀ xs,x8 h xs x->Pure prog 95 [.agg ⟨xs⟩] h (tf (Q x))) :
  Pure prog 94 [v,.func (.func 95) #[] #[]] h (tf (∀ x∈l,Q x)):=by
 obtain⟨p,c,rfl,hc,hn⟩:=hv.len;refine jh au func94 F94 Vn rfl ?_;conv=>whnf
 refine fh [1,7,8,9] [] (λi:Nat=>i<=l.length/\∀ x∈l.take i,Q x) (λi=>l.length-i)
  (λi=>([.v (.func (.func 95) #[] #[]),.v (.slice p l.length c),.v (.int .i64 l.length),.v (.int .i64 i)],[],h)) 0 ⟨Nat.zero_le _,by simp⟩ rfl ?_
 rintro i ⟨hi,hj⟩;conv=>whnf
 apply ax<;>intro g;all_goals conv=>whnf
 ·have bV:i < l.length:=by omega
  obtain⟨b,off,xs,hp,r1,m1⟩:=hv.get bV;have bX:=hQ _ (x_ bV) xs m1;(obtain⟨w,rfl,hw⟩:=m1;obtain⟨_,_,rfl,_,_⟩:=hw.len)
  by_cases cW:Q l[i]
  ·rw[fk cW]at bX;repeat' ((first|refine aG hp ?_|refine aq ?_|refine dJ r1 ?_|refine aj bX ?_|refine ah ?_)<;>conv=>whnf)
   exact dm (i+1) ⟨by omega,take_one bV hj cW⟩ (by omega) rfl
  ·rw[dD cW]at bX;repeat' ((first|refine aG hp ?_|refine aq ?_|refine dJ r1 ?_|refine aj bX ?_|refine ah ?_)<;>conv=>whnf)
   exact⟨bY λhx=>cW (hx _ (x_ bV)),z_ h⟩
 ·have:i=l.length:=by omega
  subst this;rw[List.take_length]at hj;exact⟨dZ hj,z_ h⟩
theorem JM (l:List Ob) (v:Value) (bu b5:Nat) (Q:Ob->Prop) (h:Heap) (hv:Row 2 x8 h v l) (hQ:∀ x∈l,∀ xs,x8 h xs x->Pure prog 97 [.agg ⟨xs⟩,.pointer (some ⟨bu,0,none⟩),.pointer (some ⟨b5,0,none⟩)] h (tf (Q x))) :
  Pure prog 94 [v,.func (.func 97) #[] #[.pointer (some ⟨bu,0,none⟩),.pointer (some ⟨b5,0,none⟩)]] h (tf (∀ x∈l,Q x)):=by
 obtain⟨p,c,rfl,hc,hn⟩:=hv.len;refine jh au func94 F94 Vn rfl ?_;conv=>whnf
 refine fh [1,7,8,9] [] (λi:Nat=>i<=l.length/\∀ x∈l.take i,Q x) (λi=>l.length-i)
  (λi=>([.v (.func (.func 97) #[] #[.pointer (some ⟨bu,0,none⟩),.pointer (some ⟨b5,0,none⟩)]),.v (.slice p l.length c),.v (.int .i64 l.length),.v (.int .i64 i)],[],h)) 0 ⟨Nat.zero_le _,by simp⟩ rfl ?_
 rintro i ⟨hi,hj⟩;conv=>whnf
 apply ax<;>intro g;all_goals conv=>whnf
 ·have bV:i < l.length:=by omega
  obtain⟨b,off,xs,hp,r1,m1⟩:=hv.get bV;have bX:=hQ _ (x_ bV) xs m1;(obtain⟨w,rfl,hw⟩:=m1;obtain⟨_,_,rfl,_,_⟩:=hw.len)
  by_cases cW:Q l[i]
  ·rw[fk cW]at bX;repeat' ((first|refine aG hp ?_|refine aq ?_|refine dJ r1 ?_|refine aj bX ?_|refine ah ?_)<;>conv=>whnf)
   exact dm (i+1) ⟨by omega,take_one bV hj cW⟩ (by omega) rfl
  ·rw[dD cW]at bX;repeat' ((first|refine aG hp ?_|refine aq ?_|refine dJ r1 ?_|refine aj bX ?_|refine ah ?_)<;>conv=>whnf)
   exact⟨bY λhx=>cW (hx _ (x_ bV)),z_ h⟩
 ·have:i=l.length:=by omega
  subst this;rw[List.take_length]at hj;exact⟨dZ hj,z_ h⟩
theorem Nl (l:List bQ) (v:Value) (bu b5:Nat) (Q:bQ->Prop) (h:Heap) (hv:Row 4 tB h v l) (hQ:∀ x∈l,∀ xs,tB h xs x->Pure prog 83 [.agg ⟨xs⟩,.pointer (some ⟨bu,0,none⟩),.pointer (some ⟨b5,0,none⟩)] h (tf (Q x))) :
  Pure prog 100 [v,.func (.func 83) #[] #[.pointer (some ⟨bu,0,none⟩),.pointer (some ⟨b5,0,none⟩)]] h (tf (∀ x∈l,Q x)):=by
 obtain⟨p,c,rfl,hc,hn⟩:=hv.len;refine jh au func100 Vo Vp rfl ?_;conv=>whnf
 refine fh [1,7,8,9] [] (λi:Nat=>i<=l.length/\∀ x∈l.take i,Q x) (λi=>l.length-i)
  (λi=>([.v (.func (.func 83) #[] #[.pointer (some ⟨bu,0,none⟩),.pointer (some ⟨b5,0,none⟩)]),.v (.slice p l.length c),.v (.int .i64 l.length),.v (.int .i64 i)],[],h)) 0 ⟨Nat.zero_le _,by simp⟩ rfl ?_
 rintro i ⟨hi,hj⟩;conv=>whnf
 apply ax<;>intro g;all_goals conv=>whnf
 ·have bV:i < l.length:=by omega
  obtain⟨b,off,xs,hp,r1,m1⟩:=hv.get bV;have bX:=hQ _ (x_ bV) xs m1;(obtain⟨w1,w2,rfl,Iy,BV⟩:=m1;obtain⟨_,_,rfl,_,_⟩:=Iy.len;obtain⟨_,_,rfl,_,_⟩:=BV.len)
  by_cases cW:Q l[i]
  ·rw[fk cW]at bX;repeat' ((first|refine aG hp ?_|refine aq ?_|refine dJ r1 ?_|refine aj bX ?_|refine ah ?_)<;>conv=>whnf)
   exact dm (i+1) ⟨by omega,take_one bV hj cW⟩ (by omega) rfl
  ·rw[dD cW]at bX;repeat' ((first|refine aG hp ?_|refine aq ?_|refine dJ r1 ?_|refine aj bX ?_|refine ah ?_)<;>conv=>whnf)
   exact⟨bY λhx=>cW (hx _ (x_ bV)),z_ h⟩
 ·have:i=l.length:=by omega
  subst this;rw[List.take_length]at hj;exact⟨dZ hj,z_ h⟩
abbrev gZ (b:Nat):Value:=.pointer (some ⟨b,0,none⟩)
structure Ask (h:Heap) (bu bm b5 b6:Nat) (p:Option Addr) (cc:Nat) (q:Option Addr) (d:Nat) (u:aO) (po:Option Addr) (co:Nat) (pf:Option Addr) (cf:Nat) (ps:Option Addr) (cs:Nat) (M:bM):Prop where
 kbu:∃ t,h bu=some (.cells [.slice p u.J.length cc,.slice q u.methods.length d].toArray t (0,0))
 P6:∃ t,h bm=some (.cells [.slice po M.objs.length co,.slice pf M.ag.length cf,.slice ps M.said.length cs,.int .i64 M.steps,.int .i64 M.fin,.bool M.out.ref,.int .i64 M.out.n].toArray t (0,0))
 kb5:∃ t,h b5=some (.cells [.func (.func 81) #[] #[gZ bm]].toArray t (0,0))
 kb6:∃ t,h b6=some (.cells [.func (.func 83) #[] #[gZ bu,gZ b5]].toArray t (0,0))
 cls:Row 2 Ap h (.slice p u.J.length cc) u.J
 aV:Row 8 eM h (.slice q u.methods.length d) u.methods
 objs:Row 2 x8 h (.slice po M.objs.length co) M.objs
 ag:Row 4 tB h (.slice pf M.ag.length cf) M.ag
 said:Row 1 C9 h (.slice ps M.said.length cs) M.said
 hT:cz u
section
variable {h:Heap} {bu bm b5 b6:Nat} {p q po pf ps:Option Addr} {cc d co cf cs:Nat} {u:aO} {M:bM}
theorem Ask.val (a:Ask h bu bm b5 b6 p cc q d u po co pf cf ps cs M) (x:Vl):Pure prog 81 [.agg ⟨bR x⟩,gZ bm] h (tf (kE M.objs.length x)):=by
 obtain⟨t,hb⟩:=a.P6;exact TV x bm none po _ co _ _ _ _ _ _ t h hb
theorem Ask.aW (a:Ask h bu bm b5 b6 p cc q d u po co pf cf ps cs M) (l:List Vl) (v:Value) (hv:Row 2 G7 h v l):Pure prog 86 [v,.func (.func 81) #[] #[gZ bm]] h (tf (∀ x∈l,kE M.objs.length x)) :=
 Nj l v bm _ h hv λx _ xs hx=>by
  unfold G7 at hx;subst hx;exact a.val x
theorem TW (a:Ask h bu bm b5 b6 p cc q d u po co pf cf ps cs M) (f:bQ) (xs:List Value) (hf:tB h xs f):Pure prog 83 [.agg ⟨xs⟩,gZ bu,gZ b5] h (tf (xH u M.objs.length f)):=by
 obtain⟨v1,v2,rfl,JV,Lo⟩:=hf;have k1:=a.aW f.locals v1 JV;have k2:=a.aW f.stack v2 Lo;obtain⟨p1,c1,rfl,R6,AX⟩:=JV.len;obtain⟨p2,c2,rfl,JS,NH⟩:=Lo.len;obtain⟨tu,hbu⟩:=a.kbu;obtain⟨t5,mz⟩:=a.kb5;have Ga:=a.aV.len;have km:=G9 (.slice p u.J.length cc) q u.methods.length d f.U h;have ru:fj h bu 0 2=some [.slice p u.J.length cc,.slice q u.methods.length d]:=bO hbu 2 0 (by simp);have ru1:rd h bu 1=some (.slice q u.methods.length d):=bJ hbu rfl;have r5:rd h b5 0=some (.func (.func 81) #[] #[gZ bm]):=bJ mz rfl;refine jh au func83 F83 abX rfl ?_;conv=>whnf
 by_cases hm:0<=f.U/\f.U < u.methods.length
 ·rw[fk hm]at km;obtain⟨b,off,vs,hp,r1,m1⟩:=a.aV.get (i:=f.U.toNat) (by omega);have em:u.methods[f.U.toNat]'(by omega)=aV u f.U:=by unfold aV;rw[S_,w_ (by omega)];rfl
  rw[em]at m1;obtain⟨_,_,_,_,rfl,_,_,_,_,_,w6,_,_⟩:=m1;obtain⟨_,_,rfl,_,_⟩:=w6.len;have ra:=aE r1 (i:=4) rfl;have rb:=aE r1 (i:=5) rfl;refine dJ ru ?_;conv=>whnf
  refine aK km ?_;conv=>whnf
  repeat' ((first|apply ax<;>intro _|refine aG hp ?_|refine aq ?_|refine ld ru1 ?_|refine ld rb ?_|refine ld ra ?_|refine ld r5 ?_|refine ah ?_|refine aK (uY _ _ _ h) ?_|apply T_|exact trivial)<;>conv=>whnf)
  all_goals try first|exact⟨bY (Ni (by omega)),z_ h⟩|(exfalso;omega)
  by_cases cA:∀ v∈f.locals,kE M.objs.length v
  ·rw[fk cA]at k1;refine aK k1 ?_;conv=>whnf
   refine ld r5 ?_;conv=>whnf
   by_cases cB:∀ v∈f.stack,kE M.objs.length v
   ·rw[fk cB]at k2;refine aK k2 ?_;conv=>whnf
    exact⟨dZ ((sV hm).2 ⟨by omega,by omega,by omega,cA,cB⟩),z_ h⟩
   ·rw[dD cB]at k2;refine aK k2 ?_;conv=>whnf
    exact⟨bY (λhx=>cB ((sV hm).1 hx).2.2.2.2),z_ h⟩
  ·rw[dD cA]at k1;refine aK k1 ?_;conv=>whnf
   exact⟨bY (λhx=>cA ((sV hm).1 hx).2.2.2.1),z_ h⟩
 ·rw[dD hm]at km;refine dJ ru ?_;conv=>whnf
  refine aK km ?_;conv=>whnf
  repeat' ((first|apply T_|exact trivial)<;>conv=>whnf)
  all_goals exact⟨bY (λhx=>hm hx.1),z_ h⟩
theorem TX (a:Ask h bu bm b5 b6 p cc q d u po co pf cf ps cs M):Pure prog 88 [gZ bm] h (tf (0<=M.steps/\M.steps<=200)):=by
 obtain⟨t,hb⟩:=a.P6;refine jh au func88 F88 ab2 rfl ?_;conv=>whnf
 refine ld (bJ hb rfl) ?_;conv=>whnf
 refine aj (uY _ _ _ h) ?_;conv=>whnf
 exact⟨gy Iff.rfl,z_ h⟩
theorem TY (a:Ask h bu bm b5 b6 p cc q d u po co pf cf ps cs M):Pure prog 89 [gZ bm] h (tf (7<=M.objs.length/\M.objs.length<=207)):=by
 obtain⟨t,hb⟩:=a.P6;refine jh au func89 F89 ab3 rfl ?_;conv=>whnf
 refine ld (bJ hb rfl) ?_;conv=>whnf
 refine aj (uY _ _ _ h) ?_;conv=>whnf
 exact⟨gy (by omega),z_ h⟩
theorem TZ (a:Ask h bu bm b5 b6 p cc q d u po co pf cf ps cs M):Pure prog 90 [gZ bm] h (tf (M.ag.length<=4/\M.said.length<=200)):=by
 obtain⟨t,hb⟩:=a.P6;refine jh au func90 F90 ab4 rfl ?_;conv=>whnf
 repeat' ((first|apply ax<;>intro _|refine ld (bJ (v:=.slice pf M.ag.length cf) hb rfl) ?_|refine ld (bJ (v:=.slice ps M.said.length cs) hb rfl) ?_)<;>conv=>whnf)
 all_goals first|exact⟨gy (by omega),z_ h⟩|exact⟨bY (by omega),z_ h⟩
theorem T0 (a:Ask h bu bm b5 b6 p cc q d u po co pf cf ps cs M):Pure prog 91 [gZ bm] h (tf (∀ n∈M.said,isWord n=true)):=by
 obtain⟨t,hb⟩:=a.P6;have k:=Nk M.said _ (λn=>isWord n=true) h a.said (λx _ xs _=>by
  have:=uS x h;by_cases hw:isWord x=true
  ·rw[fk hw,<-hw];exact this
  ·rw[dD hw,<-(show isWord x=false by simpa using hw)];exact this)
 refine jh au func91 F91 ab5 rfl ?_;conv=>whnf
 refine ld (bJ hb rfl) ?_;conv=>whnf
 refine aj k ?_;conv=>whnf
 exact⟨rfl,z_ h⟩
theorem P7 (o:Ob) (xs:List Value) (ho:x8 h xs o):Pure prog 95 [.agg ⟨xs⟩] h (tf (o.cls=1)):=by
 obtain⟨v,rfl,hv⟩:=ho;obtain⟨_,_,rfl,_,_⟩:=hv.len;refine jh au func95 F95 ab8 rfl ?_;conv=>whnf
 exact⟨gy Iff.rfl,z_ h⟩
theorem Nm {α:Type} {sz:Nat} {R:Heap->List Value->α->Prop} {h:Heap} {p:Option Addr} {n c:Nat} {l:List α} (hr:Row sz R h (.slice p n c) l) {k:Nat} (hk:k<=l.length):Row sz R h (.slice p k c) (l.take k):=by
 obtain⟨h1,p',c',e,h2,h3⟩:=hr;simp only[Z_]at e;obtain⟨rfl,rfl,rfl⟩:=e;have hl:(l.take k).length=k:=by rw[List.length_take];omega
 refine⟨by omega,p,c,by rw[hl],by omega,?_⟩;rcases h3 with rfl|⟨b,off,rfl,hx⟩
 ·left;simp
 ·exact .inr ⟨b,off,rfl,λi x hi=>hx i x (by
   rw[List.getElem?_take]at hi;split at hi
   ·exact hi
   ·cases hi)⟩
theorem T1 (a:Ask h bu bm b5 b6 p cc q d u po co pf cf ps cs M) (h7:7<=M.objs.length):Pure prog 93 [gZ bm] h (tf (∀ o∈M.objs.take 7,o.cls=1)):=by
 obtain⟨t,hb⟩:=a.P6;obtain⟨_,_,e,hc,_⟩:=a.objs.len;simp only[Z_]at e;obtain⟨rfl,_,rfl⟩:=e;have k:=JL (M.objs.take 7) _ (λo=>o.cls=1) h (Nm a.objs h7) (λx _ xs hx=>P7 x xs hx);refine jh au func93 F93 ab7 rfl ?_;conv=>whnf
 refine ld (bJ hb rfl) ?_;conv=>whnf
 refine aq ?_;conv=>whnf
 refine aj k ?_;conv=>whnf
 exact⟨rfl,z_ h⟩
theorem P8 (a:Ask h bu bm b5 b6 p cc q d u po co pf cf ps cs M) (o:Ob) (xs:List Value) (ho:x8 h xs o):Pure prog 97 [.agg ⟨xs⟩,gZ bu,gZ b5] h (tf (HO u M.objs.length o)):=by
 obtain⟨v,rfl,hv⟩:=ho;have k:=a.aW o.aW v hv;obtain⟨pv,cv,rfl,_,_⟩:=hv.len;have kc:=P5 p cc u o pv cv h a.cls a.hT;obtain⟨tu,hbu⟩:=a.kbu;obtain⟨t5,mz⟩:=a.kb5;refine jh au func97 F97 aca rfl ?_;conv=>whnf
 refine ld (bJ hbu rfl) ?_;conv=>whnf
 by_cases cC:ObC u o
 ·rw[fk cC]at kc;refine aj kc ?_;conv=>whnf
  refine ld (bJ mz rfl) ?_;conv=>whnf
  by_cases cV:∀ x∈o.aW,kE M.objs.length x
  ·rw[fk cV]at k;refine aj k ?_;conv=>whnf
   exact⟨dZ ⟨cV,cC⟩,z_ h⟩
  ·rw[dD cV]at k;refine aj k ?_;conv=>whnf
   exact⟨bY λhx=>cV hx.1,z_ h⟩
 ·rw[dD cC]at kc;refine aj kc ?_;conv=>whnf
  exact⟨bY λhx=>cC hx.2,z_ h⟩
theorem T2 (a:Ask h bu bm b5 b6 p cc q d u po co pf cf ps cs M):Pure prog 96 [gZ bm,gZ bu,gZ b5] h (tf (∀ o∈M.objs,HO u M.objs.length o)):=by
 obtain⟨t,hb⟩:=a.P6;have k:=JM M.objs _ bu b5 (λo=>HO u M.objs.length o) h a.objs (λx _ xs hx=>P8 a x xs hx);refine jh au func96 F96 ab9 rfl ?_;conv=>whnf
 refine ld (bJ hb rfl) ?_;conv=>whnf
 refine aj k ?_;conv=>whnf
 exact⟨rfl,z_ h⟩
theorem T3 (a:Ask h bu bm b5 b6 p cc q d u po co pf cf ps cs M):Pure prog 99 [gZ bm,gZ b6] h (tf (∀ f∈M.ag,xH u M.objs.length f)):=by
 obtain⟨t,hb⟩:=a.P6;obtain⟨t6,xX⟩:=a.kb6;have k:=Nl M.ag _ bu b5 (λf=>xH u M.objs.length f) h a.ag (λx _ xs hx=>TW a x xs hx);refine jh au func99 F99 acd rfl ?_;conv=>whnf
 refine ld (bJ hb rfl) ?_;conv=>whnf
 refine ld (bJ xX rfl) ?_;conv=>whnf
 refine aj k ?_;conv=>whnf
 exact⟨rfl,z_ h⟩
theorem P9 (a:Ask h bu bm b5 b6 p cc q d u po co pf cf ps cs M):Pure prog 101 [gZ b5,gZ bm] h (tf (kE M.objs.length M.out/\zf M)):=by
 obtain⟨t,hb⟩:=a.P6;obtain⟨t5,mz⟩:=a.kb5;have kv:=a.val M.out;have ke:=P4 (.slice po M.objs.length co) (.slice ps M.said.length cs) pf cf M h;unfold bR at kv;unfold ay at ke;have r2:fj h bm 5 2=some [.bool M.out.ref,.int .i64 M.out.n]:=bO hb 2 5 (by simp);have r7:fj h bm 0 7=some _:=bO hb 7 0 (by simp);refine jh au func101 Vq Vr rfl ?_;conv=>whnf
 refine ld (bJ mz rfl) ?_;conv=>whnf
 refine dJ r2 ?_;conv=>whnf
 by_cases cV:kE M.objs.length M.out
 ·rw[fk cV]at kv;refine aj kv ?_;conv=>whnf
  refine dJ r7 ?_;conv=>whnf
  by_cases cE:zf M
  ·rw[fk cE]at ke;refine aj ke ?_;conv=>whnf
   exact⟨dZ ⟨cV,cE⟩,z_ h⟩
  ·rw[dD cE]at ke;refine aj ke ?_;conv=>whnf
   exact⟨bY λhx=>cE hx.2,z_ h⟩
 ·rw[dD cV]at kv;refine aj kv ?_;conv=>whnf
  exact⟨bY λhx=>cV hx.1,z_ h⟩
def asks (bu bm b5 b6:Nat):List Value:=[.func (.func 88) #[] #[gZ bm],.func (.func 89) #[] #[gZ bm],.func (.func 90) #[] #[gZ bm],.func (.func 91) #[] #[gZ bm],.func (.func 93) #[] #[gZ bm],.func (.func 96) #[] #[gZ bm,gZ bu,gZ b5],.func (.func 99) #[] #[gZ bm,gZ b6],.func (.func 101) #[] #[gZ b5,gZ bm]]
def tO (u:aO) (M:bM):List Prop:=[0<=M.steps/\M.steps<=200,7<=M.objs.length/\M.objs.length<=207,M.ag.length<=4/\M.said.length<=200,∀ n∈M.said,isWord n=true,∀ o∈M.objs.take 7,o.cls=1,∀ o∈M.objs,HO u M.objs.length o,∀ f∈M.ag,xH u M.objs.length f,kE M.objs.length M.out/\zf M]
theorem It (u:aO) (M:bM):(∀ c∈tO u M,c)↔oh u M:=by
 rw[kY];simp only[tO,List.mem_cons,List.not_mem_nil,or_false,forall_eq_or_imp,forall_eq];constructor
 ·rintro⟨c1,c2,c3,c4,c5,c6,c7,c8⟩;refine⟨⟨c1,c2,c3.1,c3.2⟩,c8.1,λi hi=>⟨c6 _ (x_ hi),λh7=>c5 _ ?_⟩,c7,c4,c8.2⟩;rw[List.mem_take_iff_getElem];exact⟨i,by omega,rfl⟩
 ·rintro⟨⟨c1,c2,c3,c4⟩,c5,c6,c7,c8,c9⟩;refine⟨c1,c2,⟨c3,c4⟩,c8,λo ho=>?_,λo ho=>?_,c7,c5,c9⟩
  ·rw[List.mem_take_iff_getElem]at ho;obtain⟨i,hi,rfl⟩:=ho;exact(c6 i (by omega)).2 (by omega)
  ·obtain⟨i,hi,rfl⟩:=List.mem_iff_getElem.1 ho;exact(c6 i hi).1
theorem Qa (a:Ask h bu bm b5 b6 p cc q d u po co pf cf ps cs M) {b8:Nat} {t8:TypeId} (h8:h b8=some (.cells (asks bu bm b5 b6).toArray t8 (0,0))):Pure prog 87 [.slice (some ⟨b8,0,none⟩) 8 8] h (tf (oh u M)):=by
 refine jh au func87 F87 ab1 rfl ?_;conv=>whnf
 refine fh [5,6,7] [] (λi:Nat=>i<=8/\∀ c∈(tO u M).take i,c) (λi=>8-i)
  (λi=>([.v (.slice (some ⟨b8,0,none⟩) 8 8),.v (.int .i64 8),.v (.int .i64 i)],[],h)) 0 ⟨Nat.zero_le _,by simp⟩ rfl ?_
 rintro i ⟨hi,hj⟩;conv=>whnf
 apply ax<;>intro g;all_goals conv=>whnf
 ·have bV:i < (tO u M).length:=by simp[tO];omega
  have Fc:(tO u M)[i]->∀ c∈(tO u M).take (i+1),c:=λhc=>take_one (Q:=λc=>c) bV hj hc;have no:¬(tO u M)[i]->¬oh u M:=λhc hm=>hc ((It u M).2 hm _ (x_ bV));have hi8:i=0\/i=1\/i=2\/i=3\/i=4\/i=5\/i=6\/i=7:=by omega
  refine aq ?_;conv=>whnf
  refine ptr ?_;conv=>whnf
  rcases hi8 with rfl|rfl|rfl|rfl|rfl|rfl|rfl|rfl
  ·refine ld (bJ (i:=0) h8 rfl) ?_;conv=>whnf
   refine gx (TX a) (λcW=>?_) (λcW=>?_)
   ·conv=>whnf
    refine ah ?_;conv=>whnf
    exact dm (0+1) ⟨by omega,Fc cW⟩ (by omega) rfl
   ·conv=>whnf
    exact⟨bY (no cW),z_ h⟩
  ·refine ld (bJ (i:=1) h8 rfl) ?_;conv=>whnf
   refine gx (TY a) (λcW=>?_) (λcW=>?_)
   ·conv=>whnf
    refine ah ?_;conv=>whnf
    exact dm (1+1) ⟨by omega,Fc cW⟩ (by omega) rfl
   ·conv=>whnf
    exact⟨bY (no cW),z_ h⟩
  ·refine ld (bJ (i:=2) h8 rfl) ?_;conv=>whnf
   refine gx (TZ a) (λcW=>?_) (λcW=>?_)
   ·conv=>whnf
    refine ah ?_;conv=>whnf
    exact dm (2+1) ⟨by omega,Fc cW⟩ (by omega) rfl
   ·conv=>whnf
    exact⟨bY (no cW),z_ h⟩
  ·refine ld (bJ (i:=3) h8 rfl) ?_;conv=>whnf
   refine gx (T0 a) (λcW=>?_) (λcW=>?_)
   ·conv=>whnf
    refine ah ?_;conv=>whnf
    exact dm (3+1) ⟨by omega,Fc cW⟩ (by omega) rfl
   ·conv=>whnf
    exact⟨bY (no cW),z_ h⟩
  ·refine ld (bJ (i:=4) h8 rfl) ?_;conv=>whnf
   refine gx (T1 a (hj (7<=M.objs.length/\M.objs.length<=207) (by simp[tO])).1) (λcW=>?_) (λcW=>?_)
   ·conv=>whnf
    refine ah ?_;conv=>whnf
    exact dm (4+1) ⟨by omega,Fc cW⟩ (by omega) rfl
   ·conv=>whnf
    exact⟨bY (no cW),z_ h⟩
  ·refine ld (bJ (i:=5) h8 rfl) ?_;conv=>whnf
   refine gx (T2 a) (λcW=>?_) (λcW=>?_)
   ·conv=>whnf
    refine ah ?_;conv=>whnf
    exact dm (5+1) ⟨by omega,Fc cW⟩ (by omega) rfl
   ·conv=>whnf
    exact⟨bY (no cW),z_ h⟩
  ·refine ld (bJ (i:=6) h8 rfl) ?_;conv=>whnf
   refine gx (T3 a) (λcW=>?_) (λcW=>?_)
   ·conv=>whnf
    refine ah ?_;conv=>whnf
    exact dm (6+1) ⟨by omega,Fc cW⟩ (by omega) rfl
   ·conv=>whnf
    exact⟨bY (no cW),z_ h⟩
  ·refine ld (bJ (i:=7) h8 rfl) ?_;conv=>whnf
   refine gx (P9 a) (λcW=>?_) (λcW=>?_)
   ·conv=>whnf
    refine ah ?_;conv=>whnf
    exact dm (7+1) ⟨by omega,Fc cW⟩ (by omega) rfl
   ·conv=>whnf
    exact⟨bY (no cW),z_ h⟩
 ·have:i=8:=by omega
  subst this;exact⟨dZ ((It u M).1 (by simpa [tO]using hj)),z_ h⟩
end
theorem Nn (us mc:List Value) (u:aO) (M:bM) (h:Heap) (hu:dG h us u) (hT:cz u) (hM:xg h mc M):Pure prog 48 [.agg ⟨us⟩,.agg ⟨mc⟩] h (tf (oh u M)):=by
 obtain⟨p,cc,q,d,rfl,hcs,fM,ji,hl2⟩:=hu.form;obtain⟨vo,vf,vs,rfl,w1,w2,w3⟩:=hM;obtain⟨po,co,rfl,GO,Hw⟩:=w1.len;obtain⟨pf,cf,rfl,UJ,Eh⟩:=w2.len;obtain⟨ps,cs,rfl,UK,UL⟩:=w3.len;unfold ay;refine jh au func48 F48 abt rfl ?_;conv=>whnf
 refine ec [.slice p u.J.length cc,.slice q u.methods.length d] rfl (λbu h1 hbu e1 l1 g1=>?_);conv=>whnf
 refine ec [.slice po M.objs.length co,.slice pf M.ag.length cf,.slice ps M.said.length cs,.int .i64 M.steps,.int .i64 M.fin,.bool M.out.ref,.int .i64 M.out.n] rfl (λbm h2 iR e2 l2 g2=>?_);conv=>whnf
 refine ec [.nilFunc] rfl (λb5 h3 mz e3 l3 g3=>?_);conv=>whnf
 refine Ag g3 [.func (.func 81) #[] #[gZ bm]] (by simp) rfl (λh4 e4 g4=>?_);conv=>whnf
 refine ec [.nilFunc] rfl (λb6 h5 xX e5 l5 g5=>?_);conv=>whnf
 refine Ag g5 [.func (.func 83) #[] #[gZ bu,gZ b5]] (by simp) rfl (λh6 e6 g6=>?_);conv=>whnf
 refine ec (asks bu bm b5 b6) rfl (λb8 h7 ZX e7 l7 g7=>?_);have n35:h4 b6=none:=xX;have k4:∀ z,z≠b5->h4 z=h3 z:=λz hz=>by rw[e4];simp[Heap.set,hz]
 have k6:∀ z,z≠b6->h6 z=h5 z:=λz hz=>by rw[e6];simp[Heap.set,hz]
 have l24:h2.le h4:=λz o ho=>by
  rw[k4 z (by rintro rfl;rw[mz]at ho;cases ho)];exact l3 z o ho
 have l46:h4.le h6:=λz o ho=>by
  rw[k6 z (by rintro rfl;rw[xX]at ho;cases ho)];exact l5 z o ho
 have l27:=y_ l24 (y_ l46 l7);have N5:h.le h7:=y_ l1 (y_ l2 l27);have a:Ask h7 bu bm b5 b6 p cc q d u po co pf cf ps cs M:=⟨⟨_,l27 _ _ (l2 _ _ g1)⟩,⟨_,l27 _ _ g2⟩,⟨_,l7 _ _ (l46 _ _ g4)⟩,⟨_,l7 _ _ g6⟩,hcs.le N5 (λ_ _ hx=>hx.le N5),fM.le N5 (λ_ _ hx=>hx.le N5),w1.le N5 (λ_ _ hx=>x8.le N5 hx),w2.le N5 (λ_ _ hx=>tB.le N5 hx),w3.le N5 (λ_ _ hx=>hx),hT⟩
 conv=>whnf
 refine aj (Qa a g7) ?_;conv=>whnf
 exact⟨rfl,N5⟩
theorem No (us mc:List Value) (u:aO) (M:bM) (h:Heap) (hu:dG h us u) (hM:xg h mc M):Pure prog 21 [.agg ⟨us⟩,.agg ⟨mc⟩] h (tf (cz u/\oh u M)):=by
 have UI:=KW us u h hu;have hMo:=λhT=>Nn us mc u M h hu hT hM;obtain⟨p,cc,q,d,rfl,hcs,fM,ji,hl2⟩:=hu.form;obtain⟨vo,vf,vs,rfl,w1,w2,w3⟩:=hM;obtain⟨po,co,rfl,GO,Hw⟩:=w1.len;obtain⟨pf,cf,rfl,UJ,Eh⟩:=w2.len;obtain⟨ps,cs,rfl,UK,UL⟩:=w3.len;unfold ay at hMo ⊢;refine jh au func21 F21 aa4 rfl ?_;conv=>whnf
 refine gx UI (λhT=>?_) (λhT=>?_)
 ·conv=>whnf
  refine gx (hMo hT) (λhm=>?_) (λhm=>?_)
  ·conv=>whnf
   exact⟨dZ ⟨hT,hm⟩,z_ h⟩
  ·conv=>whnf
   exact⟨bY λhx=>hm hx.2,z_ h⟩
 ·conv=>whnf
  exact⟨bY λhx=>hT hx.1,z_ h⟩
open Go.Vc Go.Proofs.Tryz
set_option maxRecDepth 100000
set_option maxHeartbeats 4000000
def z5 (u:aO) (M R:bM):Prop:=(cz u/\oh u M->R=fB u M)/\(¬(cz u/\oh u M)->R=lT)
theorem UN (u:aO) (M:bM):∃ R,z5 u M R:=by
 by_cases h:cz u/\oh u M
 ·exact⟨_,λ_=>rfl,λhn=>absurd h hn⟩
 ·exact⟨lT,λhp=>absurd hp h,λ_=>rfl⟩
theorem Rr (us mc:List Value) (u:aO) (M:bM) (h:Heap) (hu:dG h us u) (hM:wI h mc M) (hQ:xg h mc M) (R:bM) (EF:z5 u M R):bI prog 11 [.agg ⟨us⟩,.agg ⟨mc⟩] h (Pf h R):=by
 have Rs:=No us mc u M h hu hQ;have step:=λhT hI=>Gm mc us u M h hM hu hT hI;obtain⟨p,cc,q,d,rfl,hcs,fM,ji,hl2⟩:=hu.form;obtain⟨vo,vf,vs,rfl,w1,w2,w3⟩:=hQ;obtain⟨po,co,rfl,GO,Hw⟩:=w1.len;obtain⟨pf,cf,rfl,UJ,Eh⟩:=w2.len;obtain⟨ps,cs,rfl,UK,UL⟩:=w3.len;unfold ay at Rs step ⊢;refine bZ au func11 F11 aaW rfl ?_;conv=>whnf
 refine gx Rs (λhP=>?_) (λhP=>?_);all_goals conv=>whnf
 ·rw[EF.1 hP];refine aC (step hP.1 (λhf=>hP.2.SF hP.1 hf)) (λv h1 hh=>?_);obtain⟨l1,D9,B,rfl,own,nd,fr⟩:=hh;obtain⟨_,_,_,_,_,_,rfl⟩:=own.nI;unfold nI ay at own ⊢;conv=>whnf
  exact⟨l1,_,B,rfl,own,nd,fr⟩
 ·rw[EF.2 hP];exact⟨z_ h,_,[],rfl,uu h,λ_=>by simp,by simp⟩
theorem Rt (us mc:List Value) (u:aO) (M:bM) (h:Heap) (hu:dG h us u) (hM:wI h mc M) (hQ:xg h mc M) (R:bM) (EF:z5 u M R):bI prog 14 [.agg ⟨us⟩,.agg ⟨mc⟩] h (Pf h R):=by
 have Rs:=BI us mc u M h hu hQ;have step:=λfs f hT hI hf fL=>Bq mc us u M h fs f hM hu hT hI hf fL;have copy:=wQ mc M h hM;obtain⟨p,cc,q,d,rfl,hcs,fM,ji,hl2⟩:=hu.form;obtain⟨vo,vf,vs,rfl,w1,w2,w3⟩:=hQ;obtain⟨po,co,rfl,GO,Hw⟩:=w1.len;obtain⟨pf,cf,rfl,UJ,Eh⟩:=w2.len;obtain⟨ps,cs,rfl,UK,UL⟩:=w3.len;unfold ay at Rs step copy ⊢;refine bZ au func14 F14 aaZ rfl ?_;conv=>whnf
 refine gx Rs (λhP=>?_) (λhP=>?_);all_goals conv=>whnf
 ·rw[EF.1 hP];have hm:=hP.2;have l1:=hm.steps.2;have l2:=hm.len.2;have l3:=hm.kG;have stay:(M.fin≠0\/M.steps=200\/M.objs.length=207\/M.said.length=200)->fB u M=M:=λeB=>by
   unfold fB;rw[if_pos (by omega)]
  have go:¬(M.fin≠0\/M.steps=200\/M.objs.length=207\/M.said.length=200)->∃ fs f,M.ag=fs++[f]/\M.fin=0/\oY u fs f M=fB u M:=λeB=>by
   have cH:M.ag≠[]:=by
    rcases hm.fin with h1|h1|h1
    ·exact h1.2.1
    ·omega
    ·omega
   rcases List.eq_nil_or_concat M.ag with e|⟨gs,gl,e⟩
   ·exact absurd e cH
   ·have e:M.ag=gs++[gl]:=by simpa using e
    exact⟨gs,gl,e,by omega,(CQ e (by omega)).symm⟩
  clear hm;repeat' ((first|apply ax<;>intro _|apply aT<;>intro _)<;>conv=>whnf)
  all_goals first
   | (
    rw[stay (by omega)];refine aC copy (λv h1 hh=>?_);obtain⟨l1,D9,B,rfl,own,nd,fr⟩:=hh;obtain⟨_,_,_,_,_,_,rfl⟩:=own.nI;unfold nI ay at own ⊢;conv=>whnf
    exact⟨l1,_,B,rfl,own,nd,fr⟩)
   | (
    obtain⟨fs,f,hf,h0,e⟩:=go (by omega);rw[<-e];refine aC (step fs f hP.1 hP.2 hf h0) (λv h1 hh=>?_);obtain⟨l1,D9,B,rfl,own,nd,fr⟩:=hh;obtain⟨_,_,_,_,_,_,rfl⟩:=own.nI;unfold nI ay at own ⊢;conv=>whnf
    exact⟨l1,_,B,rfl,own,nd,fr⟩)
 ·rw[EF.2 hP];exact⟨z_ h,_,[],rfl,uu h,λ_=>by simp,by simp⟩
def Ch (a b:List Ob):Prop:=a.length<=b.length/\b.length<=a.length+1/\∃ j,∀ i (hi:i < a.length),∃ o,b[i]? = some o/\o.cls=a[i].cls/\o.aW.length=a[i].aW.length/\(i≠j\/b.length=a.length+1->o.aW=a[i].aW)
theorem Ch.refl (a:List Ob):Ch a a:=⟨Nat.le_refl _,by omega,0,λi hi=>⟨a[i],w_ hi,rfl,rfl,λ_=>rfl⟩⟩
theorem Ch.more (a:List Ob) (o:Ob):Ch a (a++[o]):=⟨by simp,by simp,0,λi hi=>⟨a[i],by rw[List.getElem?_append_left hi,w_ hi],rfl,rfl,λ_=>rfl⟩⟩
theorem Ch.put (a:List Ob) (n:Int) (k:Int) (v:Vl):Ch a (ij a n (putAt (aF a n).aW k v)):=by
 unfold ij;refine⟨by simp,by simp,(n-1).toNat,λi hi=>?_⟩;by_cases e:(n-1).toNat=i
 ·subst e;have eo:aF a n=a[(n-1).toNat]:=by unfold aF;rw[S_,w_ hi];rfl
  refine⟨_,by rw[List.getElem?_set_self hi],by simp only;rw[eo],by simp only[putAt,List.length_set];rw[eo],λh=>?_⟩;rcases h with h|h
  ·exact absurd rfl h
  ·simp at h
 ·exact⟨a[i],by rw[List.getElem?_set_ne e,w_ hi],rfl,rfl,λ_=>rfl⟩
theorem z6 {u:aO} {x:ez} {aR:List Vl} {objs o':List Ob} {f f':bQ} (h:bD u x aR objs f=.ok (o',f')):Ch objs o':=by
 have dW:∀ {n:Int} {b:Bool} {o:Ob},eE objs n b=.ok o->o=aF objs n:=λ{n b o} h=>by
  unfold eE at h;repeat' split at h
  all_goals first
   | (cases h;done)
   | (simp only[Except.ok.injEq]at h;exact h.symm)
 have NC:∀ {y:Vl} {k n:Int} {o:Ob},qi objs y k n=.ok o->o=aF objs y.n:=λ{y k n o} h=>by
  unfold qi at h;split at h
  ·cases h
  ·rename_i o2 h2;split at h
   ·simp only[Except.ok.injEq]at h;subst h;exact dW h2
   ·cases h
 unfold bD at h;simp only[sZ]at h;repeat' split at h
 all_goals first
  | (cases h;done)
  | (have:=nD h;subst this;first|exact Ch.more _ _|exact Ch.refl _)
  | (rename_i h1;have e:=NC h1;simp only[Except.ok.injEq,Prod.mk.injEq]at h;obtain⟨rfl,_⟩:=h;rw[e];exact Ch.put _ _ _ _)
  | (rename_i h1;have e:=dW h1;simp only[Except.ok.injEq,Prod.mk.injEq]at h;obtain⟨rfl,_⟩:=h;rw[e];exact Ch.put _ _ _ _)
  | (simp only[Except.ok.injEq,Prod.mk.injEq]at h;obtain⟨rfl,_⟩:=h;exact Ch.refl _)
theorem BJ {u:aO} {x:ez} {aR:List Vl} {objs o':List Ob} {f g:bQ} {said gP:List Int} {kq:Bool} {C:List Ob->bQ->Prop} (h0:C objs f) (mX:∀ i v,C objs {f with locals:=f.locals.set i v}) (qI:∀ {f1 f2:bQ} {v:Vl} {o:List Ob},C objs f1->dH objs f1 v=.ok (o,f2)->C objs f2)
  (dW:∀ {o:List Ob} {g:bQ},bD u x aR objs f=.ok (o,g)->C o g) (h:gG u x aR objs f said=.ok (o',g,gP,kq)):C o' g:=by
 have hp:∀ {f1:bQ} {v:Vl},C objs f1->fA objs f1 said v=.ok (o',g,gP,kq)->C o' g:=by
  intro f1 v hC h;obtain⟨o,g1,h1,e⟩:=sM h;simp only[Prod.mk.injEq]at e;obtain⟨rfl,rfl,_⟩:=e;have:=qI hC h1;rw[nD h1];exact this
 have hs:∀ {s:List Int} {f1:bQ} {b:Bool},C objs f1->(Except.ok (objs,f1,s,b):Sk)=.ok (o',g,gP,kq)->C o' g:=by
  intro s f1 b hC e;simp only[Except.ok.injEq,Prod.mk.injEq]at e;obtain⟨rfl,rfl,_⟩:=e;exact hC
 unfold gG at h;simp only at h;by_cases k1:x.kind=1
 ·rw[if_pos k1]at h;exact hp h0 h
 rw[if_neg k1]at h;by_cases k2:x.kind=2
 ·rw[if_pos k2]at h;exact hp h0 h
 rw[if_neg k2]at h;by_cases k3:x.kind=3
 ·rw[if_pos k3]at h;exact hp h0 h
 rw[if_neg k3]at h;by_cases k4:x.kind=4
 ·rw[if_pos k4]at h;exact hs (mX _ _) h
 rw[if_neg k4]at h;by_cases k5:x.kind=5
 ·rw[if_pos k5]at h;exact hs h0 h
 rw[if_neg k5]at h;by_cases k6:x.kind=6
 ·rw[if_pos k6]at h;split at h
  ·rename_i h1;exact hp (qI h0 h1) h
  ·cases h
 rw[if_neg k6]at h;by_cases k7:x.kind=7
 ·rw[if_pos k7]at h;split at h
  ·exact hp h0 h
  ·cases h
 rw[if_neg k7]at h;by_cases k8:x.kind=8
 ·rw[if_pos k8]at h;exact hs h0 h
 rw[if_neg k8]at h;by_cases k9:x.kind=9
 ·rw[if_pos k9]at h;exact hs h0 h
 rw[if_neg k9]at h;by_cases A2:x.kind=10
 ·rw[if_pos A2]at h;exact hs h0 h
 rw[if_neg A2]at h;by_cases JY:x.kind=11
 ·rw[if_pos JY]at h;exact hs h0 h
 rw[if_neg JY]at h;by_cases A3:x.kind=24
 ·rw[if_pos A3]at h;exact hs h0 h
 rw[if_neg A3]at h;split at h
 ·rename_i o1 g1 h1;simp only[Except.ok.injEq,Prod.mk.injEq]at h;obtain⟨rfl,rfl,_⟩:=h;exact dW h1
 ·cases h
theorem Qb {u:aO} {x:ez} {aR:List Vl} {objs o':List Ob} {f g:bQ} {said gP:List Int} {kq:Bool} (h:gG u x aR objs f said=.ok (o',g,gP,kq)):Ch objs o' :=
 BJ (C:=λo _=>Ch objs o) (Ch.refl _) (λ_ _=>Ch.refl _) (λh _=>h) (λh=>z6 h) h
theorem T4 {u:aO} {fs:List bQ} {f:bQ} {M M':bM} (h:kD u fs f M=.ok M'):Ch M.objs M'.objs:=by
 have same:∀ {N:bM},N.objs=M.objs->Ch M.objs N.objs:=λhN=>by rw[hN];exact Ch.refl _
 unfold kD at h;simp only at h;split at h
 ·cases h
 ·split at h
  ·cases h
  ·split at h
   ·unfold gW at h;simp only[rE]at h;repeat' split at h
    all_goals first
     | (cases h;done)
     | (have hc:=zw h;exact same hc.1)
     | (simp only[Except.ok.injEq]at h;subst h;first|exact same rfl|exact same nW.1)
   ·split at h
    ·cases h
    ·rename_i objs g said kq hm;simp only[Except.ok.injEq]at h;subst h;exact Qb hm
theorem Np (u:aO) (M:bM):Ch M.objs (fB u M).objs:=by
 unfold fB;split
 ·exact Ch.refl _
 ·split
  ·exact Ch.refl _
  ·split
   ·rename_i M' h;show Ch M.objs M'.objs;exact T4 h
   ·split
    ·exact Ch.refl _
    ·show Ch M.objs (cK u _ M).objs;rw[nW.1];exact Ch.refl _
def FB (f:bQ):Prop:=f.locals.length<=1000/\f.stack.length<=1000
def VB (l:List Ob):Prop:=∀ o∈l,o.aW.length<=1000
theorem Fe {objs o':List Ob} {f f':bQ} {v:Vl} (hf:FB f) (h:dH objs f v=.ok (o',f')):FB f':=by
 unfold dH at h;split at h
 ·simp only[Except.ok.injEq,Prod.mk.injEq]at h;obtain⟨_,rfl⟩:=h;exact⟨hf.1,by simp;omega⟩
 ·cases h
theorem He {u:aO} {x:ez} {aR:List Vl} {objs o':List Ob} {f f':bQ} (hc:cI u.J) (hx:x.kind=12->x.a < u.J.length) (hv:VB objs) (hf:FB f) (h:bD u x aR objs f=.ok (o',f')):VB o'/\FB f':=by
 have iB:Ch objs o'->o'.length=objs.length->VB o':=λch e o ho=>by
  obtain⟨i,hi,rfl⟩:=List.mem_iff_getElem.1 ho;obtain⟨_,_,j,hj⟩:=ch;obtain⟨o2,e1,_,e2,_⟩:=hj i (by omega);rw[w_ hi]at e1;simp only[v_]at e1;rw[e1,e2];exact hv _ (x_ _)
 have hch:=z6 h;have add:∀(l:List Int) (k:Int),l.length<=1000->VB (objs++[⟨k,l.map nothing⟩]):=λl k hl o ho=>by
  rcases u_.1 ho with ho|ho
  ·exact hv o ho
  ·rw[V_.1 ho];simpa using hl
 unfold bD at h;simp only[sZ]at h;repeat' split at h
 all_goals first
  | (cases h;done)
  | (have e:=nD h;have fb:=Fe hf h;subst e;refine⟨?_,fb⟩;first|exact hv|(refine add _ _ ?_;have:=eH hc (hx (by assumption));omega)|(refine add _ _ ?_;simp only[List.length_replicate];omega))
  | (simp only[Except.ok.injEq,Prod.mk.injEq]at h;obtain⟨rfl,rfl⟩:=h;exact⟨iB hch (by simp[ij]),hf⟩)
  | (simp only[Except.ok.injEq,Prod.mk.injEq]at h;obtain⟨rfl,rfl⟩:=h;exact⟨hv,hf⟩)
theorem Iu {u:aO} (hu:cz u) (k:Int):(aV u k).locals<=3:=by
 unfold aV;rw[S_];cases h:u.methods[k.toNat]? with
 | none=>simp[KQ]
 | some m=>exact(hu.2.2.2.1 m (List.mem_of_getElem? h)).1.2.2.2.2.1
structure TB (n:Nat) (M:bM):Prop where
 ob:VB M.objs
 fr:∀ f∈M.ag,FB f
 nf:M.ag.length<=n
theorem BK {u:aO} {k:Int} {n:Nat} {M:bM} (h:TB n M):TB n (cK u k M):=by
 unfold cK;split
 ·rename_i l hl;obtain⟨l1,f,r,c,e,_,rfl⟩:=rG hl;have hm:∀ g,g∈l1++f::r->FB g:=λg hg=>h.fr g (by rw[<-e]at hg;simpa using hg);have hlen:=congrArg List.length e;simp only[List.length_reverse,U_,List.length_cons]at hlen;refine⟨h.ob,λg hg=>?_,by simp;have:=h.nf;omega⟩;simp only[List.mem_reverse,List.mem_cons]at hg;rcases hg with rfl|hg
  ·exact⟨(hm f (by simp)).1,by simp⟩
  ·exact hm g (by simp[hg])
 ·exact⟨h.ob,by simp,by simp⟩
theorem Ff {u:aO} (hu:cz u) {to:Int} {aR:List Vl} {M M':bM} {n:Nat} (ht:aR.length<=1000) (hM:TB n M) (h:jA u to aR M=.ok M'):TB (n+1) M':=by
 unfold jA at h;split at h
 ·cases h
 ·simp only[Except.ok.injEq]at h;subst h;refine⟨hM.ob,λg hg=>?_,by simp;have:=hM.nf;omega⟩;rcases u_.1 hg with hg|hg
  ·exact hM.fr g hg
  ·rw[V_.1 hg];have:=Iu hu to;exact⟨by simp[gO];omega,by simp[gO]⟩
theorem T5 {u:aO} (hu:cz u) {M M':bM} {fs:List bQ} {f:bQ} {n:Nat} (hM:TB n M) (gz:M.ag=fs++[f]) (hm:0<=f.U/\f.U < u.methods.length) (AW:0<=f.pc) (h:kD u fs f M=.ok M'):TB (n+1) M':=by
 have Fq:FB f:=hM.fr f (by rw[gz];simp);have qO:∀ g∈fs,FB g:=λg hg=>hM.fr g (by rw[gz];simp[hg]);have Eh:=hM.nf;rw[gz,U_,List.length_singleton]at Eh;unfold kD at h;simp only at h;split at h
 ·cases h
 rename_i gE;have hx:∀ x,x=(aV u f.U).code.getD f.pc.toNat ep->x.kind=12->x.a < u.J.length:=λx e hk=>by
  have hl:f.pc.toNat < (aV u f.U).code.length:=by omega
  have e2:x=(aV u f.U).code[f.pc.toNat]:=by rw[e,S_,w_ hl];rfl
  have hI:=(hu.aV hm).2.1.2.2.2.1 x (by rw[e2];exact x_ hl);obtain⟨kind,a,b⟩:=x;simp only at hk;subst hk;have:=(aI (p:=5) (q:=0) rfl).1 hI;simp[bz]at this;show a < u.J.length;omega
 generalize hxe:(aV u f.U).code.getD f.pc.toNat ep=x at h;have hx:=hx x hxe.symm;split at h
 ·cases h
 rename_i aR rest ht;obtain⟨ws,_,_,_,eB⟩:=kJ ht;have hlen:=congrArg List.length eB;rw[U_]at hlen;have h2:=Fq.2;have IA:FB {f with stack:=rest}:=⟨Fq.1,by simp only;omega⟩
 have ye:TB n {M with ag:=fs++[{f with stack:=rest}]}:=⟨hM.ob,λg hg=>by
  rcases u_.1 hg with hg|hg
  ·exact qO g hg
  ·rw[V_.1 hg];exact IA,by simp only[U_,List.length_singleton];omega⟩
 have up:∀ {N:bM},TB n N->TB (n+1) N:=λ{N} h=>⟨h.ob,h.fr,by have:=h.nf;omega⟩
 split at h
 ·unfold gW at h;simp only at h;split at h
  ·exact Ff hu (by omega) ye h
  split at h
  ·split at h
   ·cases h
   ·exact Ff hu (by omega) ye h
  split at h
  ·unfold rE at h;split at h
   ·simp only[Except.ok.injEq]at h;subst h;exact⟨hM.ob,by simp,by simp⟩
   ·rename_i g hg;split at h
    ·simp only[Except.ok.injEq]at h;subst h;have QT:g∈fs:=List.mem_of_getLast? hg;refine⟨hM.ob,λk hk=>?_,by simp;omega⟩;rcases u_.1 hk with hk|hk
     ·exact qO k (List.dropLast_subset _ hk)
     ·rw[V_.1 hk];exact⟨(qO g QT).1,by simp;omega⟩
    ·cases h
  split at h
  ·split at h
   ·cases h
   ·simp only[Except.ok.injEq]at h;subst h;exact up (BK ye)
  ·simp only[Except.ok.injEq]at h;subst h;exact up ye
 ·split at h
  ·cases h
  ·rename_i objs g said kq gH;simp only[Except.ok.injEq]at h;subst h;have:=BJ (C:=λo g=>VB o/\FB g) ⟨hM.ob,IA⟩ (λi v=>⟨hM.ob,by simpa [FB]using IA⟩) (λhC hp=>⟨hC.1,Fe hC.2 hp⟩) (λdW=>He hu.1 hx hM.ob IA dW) gH;refine⟨this.1,λk hk=>?_,by simp;omega⟩;rcases u_.1 hk with hk|hk
   ·exact qO k hk
   ·rw[V_.1 hk];exact this.2
theorem Nq {u:aO} (hu:cz u) {M:bM} {n:Nat} (h:oh u M) (hM:TB n M):TB (n+1) (fB u M):=by
 have up:∀ {N:bM} {s f:Int} {n:Nat},TB n N->TB (n+1) {N with steps:=s,fin:=f}:=λ{N _ _ _} h=>⟨h.ob,h.fr,by have:=h.nf;simp only;omega⟩
 unfold fB;split
 ·exact⟨hM.ob,hM.fr,by have:=hM.nf;omega⟩
 split
 ·exact⟨hM.ob,hM.fr,by have:=hM.nf;omega⟩
 rename_i f pI;have gz:M.ag=M.ag.dropLast++[f]:=by
  have cH:M.ag≠[]:=by intro hx;rw[hx]at pI;cases pI
  have:=List.dropLast_concat_getLast cH;rw[List.getLast?_eq_some_getLast cH]at pI;simp only[v_]at pI;rw[pI]at this;exact this.symm
 have hF:=h.iN f (List.mem_of_getLast? pI);split
 ·rename_i M' hd;have:=T5 hu hM gz hF.1 hF.2.1.1 hd;exact⟨this.ob,this.fr,this.nf⟩
 ·split
  ·exact up (f:=3) hM
  ·have:=BK (u:=u) (k:=‹Int›) hM;exact⟨this.ob,this.fr,by have:=this.nf;simp only;omega⟩
theorem Hf {u:aO} (hu:cz u) {M:bM} (h:oh u M):Ir (fB u M):=by
 have hs:=h.small hu;have t0:TB 4 M:=⟨λo ho=>by
  rcases(h.objs o ho).2 with ⟨_,h2⟩|⟨_,h2,h3⟩
  ·omega
  ·have:=eH hu.1 h2;omega,λf hf=>by
  have hF:=h.iN f hf;have:=Iu hu f.U;have:=hF.2.2.1;have:=hF.2.2.2.1;exact⟨by omega,by omega⟩,h.nf⟩
 have t:=Nq hu h t0;obtain⟨c1,c2,_⟩:=Np u M;have l1:=h.len.2;have l2:=h.kG;refine⟨by unfold BH;omega,λo ho=>by have:=t.ob o ho;unfold Ip BH;omega,by have:=t.nf;unfold BH;omega,λf hf=>by have:=t.fr f hf;unfold Iq BH FB at *;omega,?_⟩;rcases zx (u:=u) (M:=M)with e|e
 ·rw[e.1];unfold BH;omega
 ·have:=e.2.2.1;unfold BH;omega
theorem z5.ads {u:aO} {M R:bM} (EF:z5 u M R):Ir R:=by
 by_cases hP:cz u/\oh u M
 ·rw[EF.1 hP];exact Hf hP.1 hP.2
 ·rw[EF.2 hP];exact⟨by simp[lT,BH],by simp[lT],by simp[lT,BH],by simp[lT],by simp[lT,BH]⟩
section
variable {u u':aO}
end
open Go.Vc Go.Proofs.Tryz
set_option maxRecDepth 100000
set_option maxHeartbeats 4000000
section
variable {u u':aO}
end
open Go.Vc Go.Proofs.Tryz
set_option maxRecDepth 100000
set_option maxHeartbeats 4000000
def Iv (objs:List Ob) (v:Vl):Int:=if v.ref=false then 1 else if v.n=0 then 2 else typeOf (aF objs v.n).cls
def Hg (cs:List eD) (objs:List Ob) (l:List Vl) (ts:List Int):Prop:=l.length<=ts.length/\∀ i (h1:i < l.length) (h2:i < ts.length),iy cs (Iv objs l[i]) ts[i]=true
theorem Iw {u:aO} {M:bM} (hT:cz u) (h:oh u M) {k:Int} (h0:0 < k) (h1:k<=M.objs.length) : -2<=(aF M.objs k).cls/\(aF M.objs k).cls < u.J.length:=by
 have h2:=hT.1.1;have hl:(k-1).toNat < M.objs.length:=by omega
 have e:aF M.objs k=M.objs[(k-1).toNat]:=by unfold aF;rw[S_,w_ hl];rfl
 rw[e];rcases(h.objs _ (x_ hl)).2 with h3|h3<;>omega
theorem Nr {u:aO} {M:bM} (hT:cz u) (h:oh u M) {v:Vl} (hv:kE M.objs.length v):0<=Iv M.objs v/\Iv M.objs v < 8+(u.J.length:Int):=by
 have h2:=hT.1.1;unfold Iv;split
 ·omega
 ·rename_i hr;have:=hv.1 (by simpa using hr);split
  ·omega
  ·have:=Iw hT h (k:=v.n) (by omega) this.2;unfold typeOf;split
   ·omega
   ·split<;>omega
theorem BL (u:aO) (M:bM) (p:Option Addr) (c:Nat) (v:Vl) (h:Heap) (ho:Row 2 x8 h (.slice p M.objs.length c) M.objs) (hT:cz u) (hM:oh u M) (hv:kE M.objs.length v):Pure prog 66 [.slice p M.objs.length c,.agg #[.bool v.ref,.int .i64 v.n]] h (.int .i64 (Iv M.objs v)):=by
 have hlen:=hM.len;have h5:=hT.1.2.1;refine jh au func66 F66 Vm rfl ?_;conv=>whnf
 cases hr:v.ref
 ·conv=>whnf
  exact⟨by unfold Iv;rw[if_pos hr],z_ h⟩
 ·have hn:=hv.1 hr;conv=>whnf
  apply ax<;>intro g;all_goals conv=>whnf
  ·exact⟨by unfold Iv;rw[if_neg (by simp[hr]),if_pos g],z_ h⟩
  ·have hl:(v.n-1).toNat < M.objs.length:=by omega
   have e:aF M.objs v.n=M.objs[(v.n-1).toNat]:=by unfold aF;rw[S_,w_ hl];rfl
   obtain⟨b,off,xs,hp,r1,m1⟩:=ho.get hl;obtain⟨w,rfl,_⟩:=m1;have ra:=aE r1 (i:=0) rfl;have hc:=Iw hT hM (k:=v.n) (by omega) hn.2;have SB:Iv M.objs v=typeOf (aF M.objs v.n).cls:=by unfold Iv;rw[if_neg (by simp[hr]),if_neg g]
   rw[e]at hc SB;unfold typeOf at SB;repeat' ((first|apply ax<;>intro _|refine aG hp ?_|refine aq ?_|refine ah ?_|refine ld ra ?_)<;>conv=>whnf)
   all_goals exact⟨by rw[SB];repeat' split<;>first|rfl|(exfalso;omega),z_ h⟩
theorem z7 (us:List Value) (u:aO) (M:bM) (p:Option Addr) (c:Nat) (v w:Value) (l:List Vl) (ts:List Int) (h:Heap) (hu:dG h us u) (ho:Row 2 x8 h (.slice p M.objs.length c) M.objs) (hT:cz u) (hM:oh u M) (hv:Row 2 G7 h v l) (hl:∀ x∈l,kE M.objs.length x) (hw:dy h w ts) (ht:∀ t∈ts,t < 8+(u.J.length:Int)) :
  Pure prog 63 [.agg ⟨us⟩,.slice p M.objs.length c,v,w] h (tf (Hg u.J M.objs l ts)):=by
 obtain⟨p1,cc,q,d,rfl,hcs,fM,ji,hl2⟩:=hu.form;obtain⟨pv,cv,rfl,hc,hn⟩:=hv.len;obtain⟨pw,cw,rfl,hd,hm⟩:=hw.len;refine jh au func63 F63 abF rfl ?_;conv=>whnf
 apply ax<;>intro g;all_goals conv=>whnf
 ·exact⟨bY λhx=>by have:=hx.1;omega,z_ h⟩
 refine fh [1,2,3,4,9] [4] (λi:Nat=>i<=l.length/\∀ j (h1:j < l.length) (h2:j < ts.length),j < i->iy u.J (Iv M.objs l[j]) ts[j]=true) (λi=>l.length-i)
  (λi=>([.v (.slice p M.objs.length c),.v (.slice pv l.length cv),.v (.slice pw ts.length cw),.l 4 0,.v (.int .i64 i)],[some [.slice p1 u.J.length cc,.slice q u.methods.length d]],h)) 0 ⟨Nat.zero_le _,λ_ _ _ h=>absurd h (by omega)⟩ rfl ?_
 rintro i ⟨hi,hj⟩;conv=>whnf
 apply ax<;>intro g;all_goals conv=>whnf
 ·have bV:i < l.length:=by omega
  have Ra:i < ts.length:=by omega
  obtain⟨b,off,xs,hp,r1,m1⟩:=hv.get bV;obtain⟨b',eJ,ys,Oy,r2,m2⟩:=hw.get Ra;have hlw:=hl _ (x_ bV);have k1:=BL u M p c l[i] h ho hT hM hlw;have k2:=qe p1 u.J.length cc u.J (Iv M.objs l[i]) ts[i] h hcs hT.1 (Nr hT hM hlw).2 (ht _ (x_ Ra));obtain rfl:=m1;obtain⟨rfl,_⟩:=m2;have rb:=aE r2 (i:=0) rfl;repeat' ((first|refine aG hp ?_|refine aG Oy ?_|refine aq ?_|refine dJ r1 ?_|refine ld rb ?_|apply T_|exact trivial)<;>conv=>whnf)
  refine aK k1 ?_;conv=>whnf
  repeat' ((first|refine aG Oy ?_|refine aq ?_|refine ld rb ?_|apply T_|exact trivial)<;>conv=>whnf)
  by_cases cT:iy u.J (Iv M.objs l[i]) ts[i]=true
  ·rw[cT]at k2;refine aK k2 ?_;conv=>whnf
   refine ah ?_;conv=>whnf
   exact dm (i+1) ⟨by omega,λj h1 h2 h3=>by
    by_cases jj:j=i
    ·subst jj;exact cT
    ·exact hj j h1 h2 (by omega)⟩ (by omega) rfl
  ·rw[show iy u.J (Iv M.objs l[i]) ts[i]=false by simpa using cT]at k2;refine aK k2 ?_;conv=>whnf
   exact⟨bY λhx=>cT (hx.2 i bV Ra),z_ h⟩
 ·exact⟨dZ ⟨by omega,λj h1 h2=>hj j h1 h2 (by omega)⟩,z_ h⟩
theorem cz.TH {u:aO} (hu:cz u):GI u:=⟨hu.1,λm hm=>by
 have h:=(hu.2.2.2.1 m hm).1;exact⟨by have:=h.2.1;omega,h.2.2.2.1,h.2.2.1⟩⟩
theorem nP.msT {u:aO} {m:cL} (h:nP u m):Uy u m where
 mi:=⟨h.1,⟨h.2.1.1,h.2.1.2.1⟩,h.2.1.2.2.2.1,h.2.2⟩
 num:=h.2.1.2.2.1
 val s hs ht:=by
  rcases h.2.1.2.2.2.2 s hs with ⟨e,_⟩|⟨_,h2,h3,h4,h5⟩
  ·rw[ht]at e;cases e
  ·exact⟨h2,λt ht=>by have:=h4 t ht;unfold jk at this;omega,λt ht=>by have:=(h5 t ht).2;unfold jk at this;omega,h3⟩
theorem BM {u:aO} {m:cL} (hV:GI u) (hM:Uy u m):∀(k i:Nat) (s:dY) (comes:Bool) (out:List dY),i+k=m.code.length->rP u.J.length m.locals s->(∀ r∈out,rP u.J.length m.locals r)->∀ r∈(fy u m k i s comes out).1,rP u.J.length m.locals r
 | 0,_,_,_,_,_,_,ho=>ho
 | k+1,i,s,comes,out,hi,hs,ho=>by
  have bV:i < m.code.length:=by omega
  have JW:rP u.J.length m.locals (if (fo m i).told=true then fo m i else s):=by
   split
   ·rename_i ht;have hl:i < m.aQ.length:=by rw[hM.num];exact bV
    have e:fo m i=m.aQ[i]:=by unfold fo;rw[Int.toNat_natCast];exact kW hl
    rw[e]at ht ⊢;exact hM.val _ (x_ hl) ht
   ·exact hs
  have hx:eU u m (eZ m i):=by
   have e:eZ m i=m.code[i]:=by unfold eZ;rw[Int.toNat_natCast];exact kW bV
   rw[e];exact hM.mi.code _ (x_ bV)
  have AS:∀ r∈out++[if (fo m i).told=true then fo m i else s],rP u.J.length m.locals r:=λr hr=>by
   rcases u_.1 hr with hr|hr
   ·exact ho r hr
   ·rw[V_.1 hr];exact JW
  rw[fy];generalize (if (fo m i).told=true then fo m i else s)=s' at JW AS;split
  ·exact ho
  ·split
   ·exact ho
   ·split
    ·exact AS
    ·rename_i nx eB;split
     ·have:=BM hV hM k (i+1) nx (!kn (eZ m i)) (out++[s']) (by omega) (sQ hV JW hx _ eB).1 AS;simpa using this
     ·exact AS
theorem JN {u:aO} (hu:cz u) {m:cL} (hm:nP u m):∀ r∈(ey u m).1,rP u.J.length m.locals r :=
 BM hu.TH hm.msT _ 0 _ _ _ (by omega) (rR hm.1 hu.1.2.1) (by simp)
def ir (u:aO) (o:Ob):List Int:=if 0<=o.cls then dw u.J o.cls else List.replicate o.aW.length (if o.cls = -2 then 8 else 1)
theorem z8 {u:aO} {m:cL} {x:ez} (hx:eU u m x):(x.kind=20->0<=x.a/\x.a < u.methods.length)/\(x.kind=21->0<=x.a/\x.a < u.J.length):=by
 obtain⟨kind,a,b⟩:=x;refine⟨λhk=>?_,λhk=>?_⟩
 ·simp only at hk;subst hk;have:=(aI (p:=7) (q:=0) rfl).1 hx;simp[bz]at this;exact this.1.1
 ·simp only at hk;subst hk;have:=(aI (p:=5) (q:=9) rfl).1 hx;simp[bz]at this;exact this.1
theorem BN {u:aO} (hT:cz u) {o:Ob} (hc:o.cls < u.J.length) (hl:o.aW.length<=1000):(∀ t∈ir u o,cY t/\t < 8+(u.J.length:Int))/\(ir u o).length<=1000:=by
 have h2:=hT.1.1;have h5:=hT.1.2.1;unfold ir;split
 ·refine⟨λt ht=>?_,by have:=eH hT.1 hc;omega⟩;have:=gC (oZ hT.1 (o.cls.toNat+1) (by omega) hc t ht);unfold cY;omega
 ·refine⟨λt ht=>?_,by simpa using hl⟩;have e:=(List.mem_replicate.1 ht).2;unfold cY;split at e<;>omega
theorem Fg {K:Value->Heap->Prop} {E:List PanicEntry->Heap->Prop} (us xs:List Value) (u:aO) (o:Ob) (h:Heap) (hu:dG h us u) (hT:cz u) (ho:x8 h xs o) (hc:o.cls < u.J.length) (hl:o.aW.length<=1000)
  (hK:∀ h' p c,h.le h'->dy h' (.slice p (ir u o).length c) (ir u o)->K (.slice p (ir u o).length c) h'):iF prog 64 [.agg ⟨us⟩,.agg ⟨xs⟩] h K E:=by
 obtain⟨hi,bV⟩:=BN hT hc hl;obtain⟨p,cc,q,d,rfl,hcs,fM,ji,hl2⟩:=hu.form;obtain⟨v,rfl,hv⟩:=ho;obtain⟨pv,cv,rfl,_,_⟩:=hv.len;have main:bI prog 64 [.agg #[.slice p u.J.length cc,.slice q u.methods.length d],.agg #[.int .i64 o.cls,.slice pv o.aW.length cv]] h λv h'=>h.le h'/\∃ B,dR h' v (ir u o) B:=by
  refine bZ au func64 F64 abG rfl ?_;conv=>whnf
  apply ax<;>intro g;all_goals conv=>whnf
  ·refine aC (jJ _ p u.J.length cc u.J o.cls h hcs hT.1 g hc (Nat.lt_succ_self _)) (λv h1 hh=>?_);obtain⟨l1,B,own,_⟩:=hh;conv=>whnf
   exact⟨l1,B,by unfold ir;rw[if_pos g];exact own⟩
  ·have go:∀ t,(if o.cls = -2 then (8:Int)else 1)=t->ir u o=List.replicate o.aW.length t:=λt ht=>by unfold ir;rw[if_neg g,ht]
   generalize ir u o=T at go;apply ax<;>intro g2;all_goals conv=>whnf
   ·skip
    rw[(go 8 (if_pos g2))];refine ec [] rfl (λb0 h1 tZ e0 l1 g0=>?_);conv=>whnf
    refine fh [3,5,6] [3] (λs:Nat × Heap × Option Addr × Nat × List Nat=>s.1<=o.aW.length/\h.le s.2.1/\dR s.2.1 (.slice s.2.2.1 s.1 s.2.2.2.1) (List.replicate s.1 8) s.2.2.2.2/\∀ b∈s.2.2.2.2,h b=none) (λs=>o.aW.length-s.1)
     (λs=>([.l 3 0,.v (.int .i64 8),.v (.slice s.2.2.1 s.1 s.2.2.2.1)],[some [.int .i64 o.cls,.slice pv o.aW.length cv]],s.2.1)) (0,h1,some ⟨b0,0,none⟩,0,[b0]) ⟨Nat.zero_le _,l1,dX g0,by simpa using tZ⟩ rfl ?_
    rintro⟨i,h2,pp,cp,B⟩ ⟨Cd,T6,own,fr⟩;simp only at Cd T6 own fr ⊢;conv=>whnf
    apply ax<;>intro g3;all_goals conv=>whnf
    ·refine dA (h0:=h) (xs:=(List.replicate i 8).map bN) (ys:=[bN 8]) own fr T6 rfl rfl (by simp[bN]) rfl rfl (by simp;omega) (by simp;omega) (λv' h3 B' k1 k2 k3 k4 k5=>?_);have uE:dR h3 v' (List.replicate (i+1) 8) B':=by
      unfold dR;rw[List.replicate_succ',List.map_append];exact k2
     have hf:=cr.form uE;obtain⟨p',c',rfl,_⟩:=hf;rw[List.length_map,List.length_replicate]at uE ⊢;conv=>whnf
     exact dm (i+1,h3,p',c',B') ⟨by simp only;omega,k1,uE,k3⟩ (by simp only;omega) rfl
    ·have mB:i=o.aW.length:=by omega
     subst mB;exact⟨T6,B,own⟩
   ·skip
    rw[(go 1 (if_neg g2))];refine ec [] rfl (λb0 h1 tZ e0 l1 g0=>?_);conv=>whnf
    refine fh [3,5,6] [3] (λs:Nat × Heap × Option Addr × Nat × List Nat=>s.1<=o.aW.length/\h.le s.2.1/\dR s.2.1 (.slice s.2.2.1 s.1 s.2.2.2.1) (List.replicate s.1 1) s.2.2.2.2/\∀ b∈s.2.2.2.2,h b=none) (λs=>o.aW.length-s.1)
     (λs=>([.l 3 0,.v (.int .i64 1),.v (.slice s.2.2.1 s.1 s.2.2.2.1)],[some [.int .i64 o.cls,.slice pv o.aW.length cv]],s.2.1)) (0,h1,some ⟨b0,0,none⟩,0,[b0]) ⟨Nat.zero_le _,l1,dX g0,by simpa using tZ⟩ rfl ?_
    rintro⟨i,h2,pp,cp,B⟩ ⟨Cd,T6,own,fr⟩;simp only at Cd T6 own fr ⊢;conv=>whnf
    apply ax<;>intro g3;all_goals conv=>whnf
    ·refine dA (h0:=h) (xs:=(List.replicate i 1).map bN) (ys:=[bN 1]) own fr T6 rfl rfl (by simp[bN]) rfl rfl (by simp;omega) (by simp;omega) (λv' h3 B' k1 k2 k3 k4 k5=>?_);have uE:dR h3 v' (List.replicate (i+1) 1) B':=by
      unfold dR;rw[List.replicate_succ',List.map_append];exact k2
     have hf:=cr.form uE;obtain⟨p',c',rfl,_⟩:=hf;rw[List.length_map,List.length_replicate]at uE ⊢;conv=>whnf
     exact dm (i+1,h3,p',c',B') ⟨by simp only;omega,k1,uE,k3⟩ (by simp only;omega) rfl
    ·have mB:i=o.aW.length:=by omega
     subst mB;exact⟨T6,B,own⟩
 exact cX main λv h' hh=>by
  obtain⟨l1,B,own⟩:=hh;obtain⟨p',c',rfl,_⟩:=cr.form own;have hr:=fm own (by omega) (λt ht=>(hi t ht).1);rw[hr.1];exact⟨l1,hK h' p' c' l1 hr.2⟩
def hY (u:aO) (f:bQ):ez:=(aV u f.U).code.getD f.pc.toNat ep
def z9 (u:aO) (f:bQ):dY:=(ey u (aV u f.U)).1.getD f.pc.toNat mh
def Ns (u:aO) (x:ez):Int:=if x.kind=21 then find u x.a x.b else x.a
structure FrT (u:aO) (M:bM) (i:Nat) (f:bQ):Prop where
 ok:(ey u (aV u f.U)).2=true
 pc:f.pc < (ey u (aV u f.U)).1.length
 loc:Hg u.J M.objs f.locals (z9 u f).locals
 cP:Hg u.J M.objs f.stack (z9 u f).stack
 top:i+1=M.ag.length->f.stack.length=(z9 u f).stack.length
 low:i+1 < M.ag.length->0<=bP u (hY u f)/\(f.stack.length:Int)=(z9 u f).stack.length-bP u (hY u f)
 ans:∀(h:i+1 < M.ag.length),iy u.J (aV u M.ag[i+1].U).out (aV u (Ns u (hY u f))).out=true
theorem yo {u:aO} {k:Int} (h:0<=k/\k < u.methods.length):u.methods[k.toNat]'(by omega)=aV u k:=by
 unfold aV;rw[S_,w_ (by omega)];rfl
theorem Qc (u:aO) (c s:Int) (hm:1<=u.methods.length):∀ k,mb u s k c < u.methods.length:=by
 intro k;induction k generalizing c with
 | zero=>rw[mb];omega
 | succ k ih =>
  rw[mb];split
  ·split
   ·rcases ua (c:=c) (s:=s) u.methods 0 with h|h<;>omega
   ·exact ih _
  ·omega
theorem Dd (us:List Value) (u:aO) (M:bM) (vo vs:Value) (pf:Option Addr) (cf:Nat) (i:Nat) (h:Heap) (hu:dG h us u) (hT:cz u) (hM:oh u M) (hf:Row 4 tB h (.slice pf M.ag.length cf) M.ag) (hi:i+1 < M.ag.length)
  (AW:M.ag[i].pc < (aV u M.ag[i].U).code.length) (hk:(hY u M.ag[i]).kind=20\/(hY u M.ag[i]).kind=21/\0<=find u (hY u M.ag[i]).a (hY u M.ag[i]).b) :
  Pure prog 124 [.agg ⟨us⟩,.agg ⟨ay vo (.slice pf M.ag.length cf) vs M⟩,.int .i64 i] h (.bool (iy u.J (aV u M.ag[i+1].U).out (aV u (Ns u (hY u M.ag[i]))).out)):=by
 have iw:=hu;have Eh:=hM.nf;obtain⟨p,cc,q,d,rfl,hcs,fM,ji,hl2⟩:=hu.form;obtain⟨b,off,xs,hp,r1,m1⟩:=hf.get (i:=i) (by omega);obtain⟨b2,FY,ys,CM,r2,m2⟩:=hf.get hi;rw[hp]at CM;simp only[v_,Addr.mk.injEq,and_true]at CM;obtain⟨rfl,rfl⟩:=CM;have hF:=hM.iN _ (x_ (show i < M.ag.length by omega));have hG:=hM.iN _ (x_ hi);generalize M.ag[i]=f at m1 AW hk hF ⊢;generalize M.ag[i+1]=g at m2 hG ⊢;obtain⟨w1,w2,rfl,e1,e2⟩:=m1;obtain⟨_,_,rfl,_,_⟩:=e1.len;obtain⟨_,_,rfl,_,_⟩:=e2.len;obtain⟨w3,w4,rfl,_⟩:=m2;have hm:=hF.1;have EO:=hF.2.1.1;have QT:=hG.1;obtain⟨bm,om,og,hq,k1,n1⟩:=fM.get (i:=f.U.toNat) (by omega);obtain⟨bm',om',vt,Cn,k2,n2⟩:=fM.get (i:=g.U.toNat) (by omega);rw[hq]at Cn;simp only[v_,Addr.mk.injEq,and_true]at Cn;obtain⟨rfl,rfl⟩:=Cn;rw[yo hm]at n1;rw[yo QT]at n2;obtain⟨_,_,_,_,rfl,_,_,_,_,_,w6,_⟩:=n1;obtain⟨pc1,cc1,rfl,_,_⟩:=w6.len;obtain⟨_,_,_,_,rfl,_⟩:=n2;have gE:f.pc.toNat < (aV u f.U).code.length:=by omega
 have ei:hY u f=(aV u f.U).code[f.pc.toNat]:=by unfold hY;rw[S_,w_ gE];rfl
 obtain⟨bc,oc,ws,hc,r3,i3⟩:=w6.get gE;obtain⟨rfl,_⟩:=i3;rw[<-ei]at r3;have hx:eU u (aV u f.U) (hY u f):=by rw[ei];exact(hT.aV hm).2.1.2.2.2.1 _ (x_ gE)
 have Qd:=z8 hx;generalize hY u f=x at hk r3 Qd ⊢;have kf:=λh0 hl=>rC _ u x.a x.b h iw hT.1 h0 hl;have Di:0<=Ns u x/\Ns u x < u.methods.length:=by
  unfold Ns;rcases hk with Fo|⟨Fp,h0⟩
  ·rw[if_neg (by omega)];exact Qd.1 Fo
  ·rw[if_pos Fp];exact⟨h0,Qc u x.a x.b hT.2.1.1 _⟩
 obtain⟨bm',om',vt,Cn,k3,n3⟩:=fM.get (i:=(Ns u x).toNat) (by omega);rw[hq]at Cn;simp only[v_,Addr.mk.injEq,and_true]at Cn;obtain⟨rfl,rfl⟩:=Cn;rw[yo Di]at n3;obtain⟨_,_,_,_,rfl,_⟩:=n3;have o1:=(hT.aV QT).1.2.2.1;have o2:=(hT.aV Di).1.2.2.1;have kl:=qe p u.J.length cc u.J (aV u g.U).out (aV u (Ns u x)).out h hcs hT.1 (by unfold dg at o1;have:=hT.1.1;omega) (by unfold dg at o2;have:=hT.1.1;omega);have la:=aE k1 (i:=5) rfl;have lb:=aE k2 (i:=3) rfl;have lc:=aE k3 (i:=3) rfl;have ld0:=aE r2 (i:=0) rfl;refine jh au func124 VX VY rfl ?_;unfold ay;conv=>whnf
 repeat' ((first|refine aG hp ?_|refine aG hq ?_|refine aG hc ?_|refine aq ?_|refine dJ r1 ?_|refine dJ r3 ?_|refine ld la ?_|apply T_|exact trivial)<;>conv=>whnf)
 rcases hk with Fo|⟨Fp,h0⟩
 ·have et:Ns u x=x.a:=by unfold Ns;rw[if_neg (by omega)]
  rw[et]at lc kl Di ⊢;refine bH ?_;conv=>whnf
  repeat' ((first|refine aG hp ?_|refine aG hq ?_|refine aq ?_|refine ld ld0 ?_|refine ld lb ?_|refine ld lc ?_|refine ah ?_|apply T_|exact trivial)<;>conv=>whnf)
  all_goals refine aK kl ?_
  all_goals conv=>whnf
  all_goals exact⟨rfl,z_ h⟩
 ·have et:Ns u x=find u x.a x.b:=by unfold Ns;rw[if_pos Fp]
  rw[et]at lc kl Di ⊢;refine cx ?_;conv=>whnf
  refine aj (kf (by have:=Qd.2 Fp;omega) (Qd.2 Fp).2) ?_;generalize find u x.a x.b=k at lc kl Di ⊢;conv=>whnf
  repeat' ((first|refine aG hp ?_|refine aG hq ?_|refine aq ?_|refine ld ld0 ?_|refine ld lb ?_|refine ld lc ?_|refine ah ?_|apply T_|exact trivial)<;>conv=>whnf)
  all_goals refine aK kl ?_
  all_goals conv=>whnf
  all_goals exact⟨rfl,z_ h⟩
theorem xQ {u:aO} {m:cL}:∀(k:Nat) (i:Int) (s:dY) (comes:Bool) (out:List dY),(fy u m k i s comes out).1.length<=out.length+k
 | 0,_,_,_,_=>by rw[fy];simp
 | k+1,i,s,comes,out=>by
  rw[fy];generalize (if (fo m i).told=true then fo m i else s)=s';split
  ·show out.length<=_;omega
  ·split
   ·show out.length<=_;omega
   ·split
    ·show(out++[s']).length<=_;simp only[U_,List.length_singleton];omega
    ·rename_i nx _;split
     ·have:=xQ k (i+1) nx (!kn (eZ m i)) (out++[s']) (u:=u) (m:=m);simp only[U_,List.length_singleton]at this;omega
     ·show(out++[s']).length<=_;simp only[U_,List.length_singleton];omega
theorem Fh (u:aO) (m:cL):(ey u m).1.length<=m.code.length:=by
 have:=xQ m.code.length 0 (jt m) true [] (u:=u) (m:=m);simpa [ey]using this
theorem Hh {u:aO} {x:ez} (h:0<=bP u x):x.kind=20\/x.kind=21/\0<=find u x.a x.b:=by
 unfold bP at h;split at h
 ·left;assumption
 ·split at h
  ·right
   refine⟨by assumption,?_⟩;split at h
   ·assumption
   ·omega
  ·omega
theorem Fi {u:aO} (hu:cz u) (k:Int):(aV u k).args.length<=2:=by
 unfold aV;rw[S_];cases h:u.methods[k.toNat]? with
 | none=>simp[KQ]
 | some m=>exact(hu.2.2.2.1 m (List.mem_of_getElem? h)).1.2.1
theorem Hi {u:aO} (hu:cz u) (x:ez):bP u x<=100:=by
 unfold bP;have h1:=Fi hu x.a;have h2:=Fi hu (find u x.a x.b);repeat' split
 all_goals omega
theorem Aa (us:List Value) (u:aO) (M:bM) (po:Option Addr) (co:Nat) (vs:Value) (pf:Option Addr) (cf:Nat) (i:Nat) (h:Heap) (hu:dG h us u) (hT:cz u) (hM:oh u M) (ho:Row 2 x8 h (.slice po M.objs.length co) M.objs) (hf:Row 4 tB h (.slice pf M.ag.length cf) M.ag) (hs:∃ p c,vs=.slice p M.said.length c) (hi:i < M.ag.length) :
  bI prog 65 [.agg ⟨us⟩,.agg ⟨ay (.slice po M.objs.length co) (.slice pf M.ag.length cf) vs M⟩,.int .i64 i] h λv h'=>h.le h'/\∃ b:Bool,v=.bool b/\(b=true->FrT u M i M.ag[i]):=by
 have iw:=hu;have Eh:=hM.nf;obtain⟨psd,csd,rfl⟩:=hs;have JO:=λh1 (hl:h.le h1) Cd AW hk=>Dd us u M (.slice po M.objs.length co) (.slice psd M.said.length csd) pf cf i h1 (iw.le hl) hT hM (hf.le hl λ_ _ hx=>tB.le hl hx) Cd AW hk;obtain⟨p,cc,q,d,rfl,hcs,fM,ji,hl2⟩:=hu.form;obtain⟨b,off,xs,hp,r1,m1⟩:=hf.get hi;have hF:=hM.iN _ (x_ hi);generalize hfe:M.ag[i]=f at m1 hF JO ⊢;obtain⟨w1,w2,rfl,e1,e2⟩:=m1;have hm:=hF.1;have EO:=hF.2.1.1;have kA1:=λh1 (hl:h.le h1) w ts hw ht=>z7 _ u M po co w1 w f.locals ts h1 (iw.le hl) (ho.le hl λ_ _ hx=>x8.le hl hx) hT hM (e1.le hl λ_ _ hx=>hx) hF.2.2.2.2.1 hw ht;have kA2:=λh1 (hl:h.le h1) w ts hw ht=>z7 _ u M po co w2 w f.stack ts h1 (iw.le hl) (ho.le hl λ_ _ hx=>x8.le hl hx) hT hM (e2.le hl λ_ _ hx=>hx) hF.2.2.2.2.2 hw ht;obtain⟨pl,cl,rfl,_,_⟩:=e1.len;obtain⟨pk,ck,rfl,_,GF⟩:=e2.len;obtain⟨bm,om,og,hq,k1,n1⟩:=fM.get (i:=f.U.toNat) (by omega);rw[yo hm]at n1;have AZ:=hT.aV hm;have kS:=si _ og u (aV u f.U) h iw n1 hT.TH AZ.msT;have hV:=JN hT AZ;have hSl:=Fh u (aV u f.U);obtain⟨q1,z1,q2,z2,q3,z3,q4,z4,rfl,_,_,_,_,_,w6,_⟩:=n1.form;have la:=aE k1 (i:=5) rfl;have T7:∀(gE:f.pc.toNat < (aV u f.U).code.length),hY u f=(aV u f.U).code[f.pc.toNat]:=λgE=>by unfold hY;rw[S_,w_ gE];rfl
 have kC:=λh1 (hl:h.le h1) (gE:f.pc.toNat < (aV u f.U).code.length)=>rI _ u (hY u f).kind (hY u f).a (hY u f).b h1 (iw.le hl) hT.1 (z8 (m:=aV u f.U) (by rw[T7 gE];exact AZ.2.1.2.2.2.1 _ (x_ gE))).1 (z8 (m:=aV u f.U) (by rw[T7 gE];exact AZ.2.1.2.2.2.1 _ (x_ gE))).2;refine bZ au func65 F65 abH rfl ?_;unfold ay at JO ⊢;conv=>whnf
 repeat' ((first|refine aG hp ?_|refine aG hq ?_|refine aq ?_|refine dJ r1 ?_|refine dJ k1 ?_|apply T_|exact trivial)<;>conv=>whnf)
 refine cX kS (λv h1 hh=>?_);obtain⟨l1,sl,rfl,ng⟩:=hh;obtain⟨pS,cS,rfl,_,_⟩:=ng.len;refine⟨l1,?_⟩;have kA1:=kA1 h1 l1;have kA2:=kA2 h1 l1;cases eP:(ey u (aV u f.U)).2
 ·conv=>whnf
  exact⟨l1,false,rfl,nofun⟩
 conv=>whnf
 apply ax<;>intro ZN;all_goals conv=>whnf
 ·exact⟨l1,false,rfl,nofun⟩
 have fV:f.pc.toNat < (ey u (aV u f.U)).1.length:=by omega
 have esh:z9 u f=(ey u (aV u f.U)).1[f.pc.toNat]:=by unfold z9;rw[S_,w_ fV];rfl
 have gE:f.pc.toNat < (aV u f.U).code.length:=by omega
 obtain⟨bS,oS,ws,hpS,rS,mS⟩:=ng.get fV;have hsv:=hV _ (x_ fV);rw[<-esh]at mS hsv;obtain⟨y1,y2,rfl,s1,s2⟩:=mS;have kA1:=kA1 y1 _ s1 (λt ht=>(hsv.gj t ht).2);have kA2:=kA2 y2 _ s2 (λt ht=>(hsv.cP t ht).2);obtain⟨py1,cy1,rfl,_,_⟩:=s1.len;obtain⟨py2,cy2,rfl,_,I8⟩:=s2.len;repeat' ((first|refine aG hpS ?_|refine aq ?_|refine dJ rS ?_)<;>conv=>whnf)
 refine gx kA1 (λcA1=>?_) (λcA1=>?_);all_goals conv=>whnf
 rotate_left
 ·exact⟨l1,false,rfl,nofun⟩
 refine gx kA2 (λcA2=>?_) (λcA2=>?_);all_goals conv=>whnf
 rotate_left
 ·exact⟨l1,false,rfl,nofun⟩
 refine ah ?_;conv=>whnf
 apply ax<;>intro gt;all_goals conv=>whnf
 ·exact⟨l1,_,rfl,λhb=>⟨eP,by omega,cA1,cA2,λ_=>by have:=of_decide_eq_true hb;omega,λh=>by omega,λh=>by omega⟩⟩
 have Cd:i+1 < M.ag.length:=by omega
 have kC:=kC h1 l1 gE;have k1':=bK l1 k1;obtain⟨bc,oc,wi,hc,r3,i3⟩:=(w6.le l1 λ_ _ hx=>hx).get gE;obtain⟨rfl,_⟩:=i3;rw[<-T7 gE]at r3;have la:=aX l1 la;have JO:=λhk=>JO h1 l1 Cd (by rw[hfe];omega) hk;rw[hfe]at JO;repeat' ((first|refine aG hq ?_|refine aG hc ?_|refine aq ?_|refine ld la ?_|refine dJ r3 ?_|apply T_|exact trivial)<;>conv=>whnf)
 refine aK kC ?_;have eC:bP u ⟨(hY u f).kind,(hY u f).a,(hY u f).b⟩=bP u (hY u f):=rfl;rw[eC];have fW:=λh0=>Hh (u:=u) (x:=hY u f) h0;have Ac:bP u (hY u f)<=100:=Hi hT _;generalize NS:bP u (hY u f)=cn at fW Ac ⊢;conv=>whnf
 apply ax<;>intro gn;all_goals conv=>whnf
 rotate_left
 ·exact⟨l1,false,rfl,nofun⟩
 refine ah ?_;conv=>whnf
 apply ax<;>intro ge;all_goals conv=>whnf
 rotate_left
 ·exact⟨l1,false,rfl,nofun⟩
 refine aj (JO (fW gn)) ?_;conv=>whnf
 exact⟨l1,_,rfl,λhb=>⟨eP,by omega,cA1,cA2,λh=>by omega,λ_=>⟨by rw[NS];exact gn,by rw[NS];omega⟩,λ_=>hb⟩⟩
def Ru (u:aO):Prop:=∀ m∈u.methods,(ey u m).2=true
theorem JP (us:List Value) (u:aO) (h:Heap) (hu:dG h us u) (hT:cz u):Pure prog 62 [.agg ⟨us⟩] h (tf (Ru u)):=by
 have iw:=hu;obtain⟨p,cc,q,d,rfl,hcs,fM,ji,hl2⟩:=hu.form;refine jh au func62 F62 abE rfl ?_;conv=>whnf
 refine fh [1,3] [1] (λs:Nat × Heap=>s.1<=u.methods.length/\h.le s.2/\∀ m∈u.methods.take s.1,(ey u m).2=true) (λs=>u.methods.length-s.1)
  (λs=>([.l 1 0,.v (.int .i64 s.1)],[some [.slice p u.J.length cc,.slice q u.methods.length d]],s.2)) (0,h) ⟨Nat.zero_le _,z_ h,by simp⟩ rfl ?_
 rintro⟨i,h1⟩ ⟨hi,l1,hj⟩;simp only at hi l1 hj ⊢;conv=>whnf
 apply ax<;>intro g;all_goals conv=>whnf
 ·have bV:i < u.methods.length:=by omega
  have KX:=fM.le l1 λ_ _ hx=>hx.le l1;obtain⟨bm,om,og,hq,k1,n1⟩:=KX.get bV;have AZ:=hT.2.2.2.1 _ (x_ bV);have kS:=si _ og u u.methods[i] h1 (iw.le l1) n1 hT.TH AZ.msT;obtain⟨q1,z1,q2,z2,q3,z3,q4,z4,rfl,_⟩:=n1.form;repeat' ((first|refine aG hq ?_|refine aq ?_|refine dJ k1 ?_|apply T_|exact trivial)<;>conv=>whnf)
  refine cX kS (λv h2 hh=>?_);obtain⟨l2,sl,rfl,ng⟩:=hh;obtain⟨pS,cS,rfl,_,_⟩:=ng.len;refine⟨l2,?_⟩;cases eP:(ey u u.methods[i]).2
  ·conv=>whnf
   exact⟨bY (λhx=>by have:=hx _ (x_ bV);rw[eP]at this;cases this),y_ l1 l2⟩
  ·conv=>whnf
   refine ah ?_;conv=>whnf
   exact dm (i+1,h2) ⟨by simp only;omega,y_ l1 l2,take_one bV hj eP⟩ (by simp only;omega) rfl
 ·have mB:i=u.methods.length:=by omega
  subst mB;rw[List.take_length]at hj;exact⟨dZ hj,l1⟩
structure T8 (u:aO) (M:bM):Prop where
 unit:cz u
 ok:oh u M
 pass:Ru u
 fin:M.fin≠3
 objs:∀ o∈M.objs,Hg u.J M.objs o.aW (ir u o)
 ag:∀ i (hi:i < M.ag.length),FrT u M i M.ag[i]
theorem Fj (us mc:List Value) (u:aO) (M:bM) (h:Heap) (hu:dG h us u) (hQ:xg h mc M):bI prog 30 [.agg ⟨us⟩,.agg ⟨mc⟩] h λv h'=>h.le h'/\∃ b:Bool,v=.bool b/\(b=true->T8 u M):=by
 have iw:=hu;have Rs:=BI us mc u M h hu hQ;have kP:=λhT=>JP us u h hu hT;obtain⟨p,cc,q,d,rfl,hcs,fM,ji,hl2⟩:=hu.form;obtain⟨vo,vf,vs,rfl,w1,w2,w3⟩:=hQ;obtain⟨po,co,rfl,GO,Hw⟩:=w1.len;obtain⟨pf,cf,rfl,UJ,Eh⟩:=w2.len;obtain⟨ps,cs,rfl,UK,UL⟩:=w3.len;unfold ay at Rs ⊢;refine bZ au func30 F30 aba rfl ?_;conv=>whnf
 refine gx Rs (λhP=>?_) (λhP=>?_);all_goals conv=>whnf
 rotate_left
 ·exact⟨z_ h,false,rfl,nofun⟩
 refine gx (kP hP.1) (λhPs=>?_) (λhPs=>?_);all_goals conv=>whnf
 rotate_left
 ·exact⟨z_ h,false,rfl,nofun⟩
 apply ax<;>intro g3;all_goals conv=>whnf
 ·exact⟨z_ h,false,rfl,nofun⟩
 have hlen:=hP.2.len;refine fh [2,3,5] [2,3] (λs:Nat × Heap=>s.1<=M.objs.length/\h.le s.2/\∀ o∈M.objs.take s.1,Hg u.J M.objs o.aW (ir u o)) (λs=>M.objs.length-s.1)
  (λs=>([.l 2 0,.l 3 0,.v (.int .i64 s.1)],[some [.slice p u.J.length cc,.slice q u.methods.length d],some [.slice po M.objs.length co,.slice pf M.ag.length cf,.slice ps M.said.length cs,.int .i64 M.steps,.int .i64 M.fin,.bool M.out.ref,.int .i64 M.out.n]],s.2)) (0,h) ⟨Nat.zero_le _,z_ h,by simp⟩ rfl ?_
 rintro⟨i,h1⟩ ⟨hi,l1,hj⟩;simp only at hi l1 hj ⊢;conv=>whnf
 apply ax<;>intro g;all_goals conv=>whnf
 ·have bV:i < M.objs.length:=by omega
  have EM:=w1.le l1 λ_ _ hx=>x8.le l1 hx;obtain⟨b,off,xs,hp,r1,m1⟩:=EM.get bV;have hoW:=hP.2.objs _ (x_ bV);have lI:M.objs[i].cls < u.J.length:=by have:=hP.1.1.1;rcases hoW.2 with h|h<;>omega
  have Cz:M.objs[i].aW.length<=1000:=by
   rcases hoW.2 with h|h
   ·omega
   ·have:=eH hP.1.1 lI;omega
  have m1':=m1;obtain⟨v,rfl,hv⟩:=m1;have kA:=λh2 (l2:h1.le h2) w ts hw ht=>z7 _ u M po co v w M.objs[i].aW ts h2 (iw.le (y_ l1 l2)) (EM.le l2 λ_ _ hx=>x8.le l2 hx) hP.1 hP.2 (hv.le l2 λ_ _ hx=>hx) hoW.1 hw ht;obtain⟨pv,cv,rfl,_,_⟩:=hv.len;have rb:=aE r1 (i:=1) rfl;repeat' ((first|refine aG hp ?_|refine aq ?_|refine dJ r1 ?_|refine ld rb ?_|apply T_|exact trivial)<;>conv=>whnf)
  refine Fg _ _ u M.objs[i] h1 (iw.le l1) hP.1 m1' lI Cz (λh2 p9 c9 l2 hw=>?_);conv=>whnf
  refine Nc (kA h2 l2 _ _ hw λt ht=>((BN hP.1 lI Cz).1 t ht).2) (λcA=>?_) (λcA=>?_);all_goals conv=>whnf
  ·refine ah ?_;conv=>whnf
   exact dm (i+1,h2) ⟨by simp only;omega,y_ l1 l2,take_one (Q:=λo=>Hg u.J M.objs o.aW (ir u o)) bV hj cA⟩ (by simp only;omega) rfl
  ·exact⟨y_ l1 l2,false,rfl,nofun⟩
 have mB:i=M.objs.length:=by omega
 subst mB;rw[List.take_length]at hj;refine fh [2,3,6] [2,3] (λs:Nat × Heap=>s.1<=M.ag.length/\h.le s.2/\∀ j (hj:j < M.ag.length),j < s.1->FrT u M j M.ag[j]) (λs=>M.ag.length-s.1)
  (λs=>([.l 2 0,.l 3 0,.v (.int .i64 s.1)],[some [.slice p u.J.length cc,.slice q u.methods.length d],some [.slice po M.objs.length co,.slice pf M.ag.length cf,.slice ps M.said.length cs,.int .i64 M.steps,.int .i64 M.fin,.bool M.out.ref,.int .i64 M.out.n]],s.2)) (0,h1) ⟨Nat.zero_le _,l1,λ_ _ h=>absurd h (by omega)⟩ rfl ?_
 rintro⟨i,h2⟩ ⟨hi,l2,TU⟩;simp only at hi l2 TU ⊢;have EM:=w1.le l2 λ_ _ hx=>x8.le l2 hx;have Pp:=w2.le l2 λ_ _ hx=>tB.le l2 hx;conv=>whnf
 apply ax<;>intro g;all_goals conv=>whnf
 ·have bV:i < M.ag.length:=by omega
  refine aC (Aa _ u M po co _ pf cf i h2 (iw.le l2) hP.1 hP.2 EM Pp ⟨ps,cs,rfl⟩ bV) (λv h3 hh=>?_);obtain⟨l3,b,rfl,hb⟩:=hh;cases b
  ·conv=>whnf
   exact⟨y_ l2 l3,false,rfl,nofun⟩
  ·conv=>whnf
   refine ah ?_;conv=>whnf
   exact dm (i+1,h3) ⟨by simp only;omega,y_ l2 l3,λj h1 h2=>by
    by_cases jj:j=i
    ·subst jj;exact hb rfl
    ·exact TU j h1 (by simp only at h2;omega)⟩ (by simp only;omega) rfl
 have mB:i=M.ag.length:=by omega
 subst mB;have fit:T8 u M:=⟨hP.1,hP.2,hPs,g3,hj,λi hi=>TU i hi hi⟩
 have kt:=BL u M po co M.out h2 EM hP.1 hP.2 hP.2.out;have SB:=Nr hP.1 hP.2 hP.2.out;refine aj kt ?_;have kl:=qe p u.J.length cc u.J (Iv M.objs M.out) 9 h2 (hcs.le l2 λ_ _ hx=>hx.le l2) hP.1.1 SB.2 (by have:=hP.1.1.1;omega);conv=>whnf
 apply ax<;>intro _;all_goals conv=>whnf
 ·exact⟨l2,_,rfl,λ_=>fit⟩
 apply ax<;>intro _;all_goals conv=>whnf
 ·refine aj kl ?_;conv=>whnf
  exact⟨l2,_,rfl,λ_=>fit⟩
 ·exact⟨l2,_,rfl,λ_=>fit⟩
theorem Ab {u:aO} {m:cL}:∀(k i:Nat) (s:dY) (comes:Bool) (out:List dY),out.length=i->(fy u m k i s comes out).2=true->(∀ j,j < i->(fy u m k i s comes out).1[j]? = out[j]?)/\(fy u m k i s comes out).1.length=i+k/\∀ j:Nat,i<=j->j < i+k->∃ t nx,(fy u m k i s comes out).1[j]? = some t/\stepT u m (eZ m j) t=some nx
 | 0,i,s,comes,out,ho,h=>by
  rw[fy]at h ⊢;exact⟨λ_ _=>rfl,by simpa using ho,λj h1 h2=>absurd h2 (by omega)⟩
 | k+1,i,s,comes,out,ho,h=>by
  rw[fy]at h ⊢;generalize (if (fo m i).told=true then fo m i else s)=s' at h ⊢;split at h
  ·cases h
  rename_i c1;rw[if_neg c1];split at h
  ·cases h
  rename_i c2;rw[if_neg c2];cases hs:stepT u m (eZ m i) s' with
  | none=>rw[hs]at h;cases h
  | some nx =>
   rw[hs]at h;simp only at h ⊢;split at h
   ·rename_i c3;rw[if_pos c3];obtain⟨a1,a2,a3⟩:=Ab k (i+1) nx (!kn (eZ m i)) (out++[s']) (by simp[ho]) h;rw[show((i+1:Nat):Int)=(i:Int)+1 by omega]at a1 a2 a3;refine⟨λj hj=>?_,by omega,λj h1 h2=>?_⟩
    ·rw[a1 j (by omega),List.getElem?_append_left (by omega)]
    ·by_cases jj:j=i
     ·subst jj;exact⟨s',nx,by rw[a1 j (by omega)];simp[<-ho],hs⟩
     ·exact a3 j (by omega) (by omega)
   ·cases h
structure tC (u:aO) (M:bM) (f:bQ):Prop where
 fit:T8 u M
 fin:M.fin=0
 steps:M.steps≠200
 said:M.said.length≠200
 objs:M.objs.length≠207
 last:M.ag.getLast? = some f
theorem tC.go {u:aO} {M:bM} {f:bQ} (t:tC u M f):¬(M.fin≠0\/200<=M.steps\/200<=M.said.length\/207<=M.objs.length):=by
 have h1:=t.fit.ok.steps;have h2:=t.fit.ok.kG;have h3:=t.fit.ok.len;have h4:=t.steps;have h5:=t.said;have h6:=t.objs;have h7:=t.fin;omega
theorem tC.ag {u:aO} {M:bM} {f:bQ} (t:tC u M f):M.ag=M.ag.dropLast++[f]:=by
 have hl:=t.last;have cH:M.ag≠[]:=by intro hx;rw[hx]at hl;cases hl
 have:=List.dropLast_concat_getLast cH;rw[List.getLast?_eq_some_getLast cH]at hl;simp only[v_]at hl;rw[hl]at this;exact this.symm
theorem tC.eq {u:aO} {M:bM} {f:bQ} (t:tC u M f):fB u M=match kD u M.ag.dropLast f M with
   | .ok M'=>{M' with steps:=M'.steps+1}
   | .error k=>if k=0 then {M with fin:=3,steps:=M.steps+1}else {cK u k M with steps:=(cK u k M).steps+1}:=wK t.ag t.go
theorem tC.frW {u:aO} {M:bM} {f:bQ} (t:tC u M f):xH u M.objs.length f:=t.fit.ok.iN f (List.mem_of_getLast? t.last)
theorem tC.frT {u:aO} {M:bM} {f:bQ} (t:tC u M f):FrT u M (M.ag.length-1) f:=by
 have hl:=t.last;have cH:M.ag≠[]:=by intro hx;rw[hx]at hl;cases hl
 have hp:0 < M.ag.length:=List.length_pos_iff.2 cH;have:=t.fit.ag (M.ag.length-1) (by omega);rw[List.getLast?_eq_getElem?,w_ (by omega)]at hl;simp only[v_]at hl;rw[hl]at this;exact this
theorem tC.step {u:aO} {M:bM} {f:bQ} (t:tC u M f):f.pc < (aV u f.U).code.length/\f.stack.length=(z9 u f).stack.length/\Hg u.J M.objs f.stack (z9 u f).stack/\∃ nx,stepT u (aV u f.U) (hY u f) (z9 u f)=some nx:=by
 have w:=t.frW;have q:=t.frT;have hl:=t.last;have cH:M.ag≠[]:=by intro hx;rw[hx]at hl;cases hl
 have hp:0 < M.ag.length:=List.length_pos_iff.2 cH;obtain⟨_,a2,a3⟩:=Ab _ 0 _ _ _ rfl q.ok;have AW:=q.pc;have a2':(ey u (aV u f.U)).1.length=0+(aV u f.U).code.length:=a2;have h0:=w.2.1.1;obtain⟨s,nx,e1,e2⟩:=a3 f.pc.toNat (by omega) (by omega);have Dh:(ey u (aV u f.U)).1[f.pc.toNat]? = some s:=e1;have es:z9 u f=s:=by unfold z9;rw[S_,Dh];rfl
 refine⟨by omega,q.top (by omega),q.cP,nx,?_⟩;rw[es];rw[show((f.pc.toNat:Nat):Int)=f.pc by omega]at e2;exact e2
theorem tC.do_ {u:aO} {M:bM} {f:bQ} (t:tC u M f) {aR rest:List Vl} (ht:ee u (hY u f) f.stack=some (aR,rest)):kD u M.ag.dropLast f M =
  if 20<=(hY u f).kind/\(hY u f).kind<=23 then gW u (hY u f) aR M.ag.dropLast {M with ag:=M.ag.dropLast++[{f with stack:=rest}]}
  else match gG u (hY u f) aR M.objs {f with stack:=rest} M.said with
   | .error e=>.error e
   | .ok (objs,g,said,kq)=>.ok {M with objs:=objs,said:=said,ag:=M.ag.dropLast++[{g with pc:=if kq then (hY u f).a else f.pc+1}]}:=by
 unfold kD;simp only;rw[if_neg (by have:=t.step.1;omega),show(aV u f.U).code.getD f.pc.toNat ep=hY u f from rfl,ht];rfl
def T9 (u:aO) (M:bM) (h:Heap) (v:Value):Prop:=(v=.tuple #[.agg #[.int .i64 0,.int .i64 0,.slice none 0 0,.slice none 0 0],.agg #[.int .i64 0,.int .i64 0,.int .i64 0],.bool false]) \/
 ∃ f p1 c1 p2 c2,tC u M f/\v=.tuple #[.agg #[.int .i64 f.U,.int .i64 f.pc,.slice p1 f.locals.length c1,.slice p2 f.stack.length c2],.agg #[.int .i64 (hY u f).kind,.int .i64 (hY u f).a,.int .i64 (hY u f).b],.bool true]/\Row 2 G7 h (.slice p1 f.locals.length c1) f.locals/\Row 2 G7 h (.slice p2 f.stack.length c2) f.stack
theorem aaH (us mc:List Value) (u:aO) (M:bM) (h:Heap) (hu:dG h us u) (hQ:xg h mc M):bI prog 12 [.agg ⟨us⟩,.agg ⟨mc⟩] h λv h'=>h.le h'/\T9 u M h' v:=by
 have kF:=Fj us mc u M h hu hQ;obtain⟨p,cc,q,d,rfl,hcs,fM,ji,hl2⟩:=hu.form;obtain⟨vo,vf,vs,rfl,w1,w2,w3⟩:=hQ;obtain⟨po,co,rfl,GO,Hw⟩:=w1.len;obtain⟨pf,cf,rfl,UJ,Eh⟩:=w2.len;obtain⟨ps,cs,rfl,UK,UL⟩:=w3.len;unfold ay at kF ⊢;refine bZ au func12 F12 aaX rfl ?_;conv=>whnf
 refine aC kF (λv1 h1 hh=>?_);obtain⟨l1,b,rfl,hb⟩:=hh;cases b
 ·conv=>whnf
  exact⟨l1,.inl rfl⟩
 have fit:=hb rfl;clear hb;conv=>whnf
 have hlen:=fit.ok.len;have hsd:=fit.ok.kG;have eB:=fit.ok.steps;have Eh:=fit.ok.nf;apply aT<;>intro g0;all_goals conv=>whnf
 ·exact⟨l1,.inl rfl⟩
 apply ax<;>intro g1;all_goals conv=>whnf
 ·exact⟨l1,.inl rfl⟩
 apply ax<;>intro g2;all_goals conv=>whnf
 ·exact⟨l1,.inl rfl⟩
 apply ax<;>intro g3;all_goals conv=>whnf
 ·exact⟨l1,.inl rfl⟩
 have cH:M.ag≠[]:=by
  rcases fit.ok.fin with h|h|h
  ·exact h.2.1
  ·omega
  ·omega
 have hp:0 < M.ag.length:=List.length_pos_iff.2 cH;have tp:tC u M (M.ag[M.ag.length-1]):=⟨fit,g0,g1,by omega,by omega,by rw[List.getLast?_eq_getElem?,w_ (by omega)]⟩
 have bV:M.ag.length-1 < M.ag.length:=by omega
 have Pp:=w2.le l1 λ_ _ hx=>tB.le l1 hx;have adv:=fM.le l1 λ_ _ hx=>eM.le l1 hx;obtain⟨b1,of1,xs,hq,r1,a1⟩:=Pp.get bV;have hF:=tp.frW;have eB:=tp.step;generalize hf:M.ag[M.ag.length-1]=f at *;obtain⟨v1,v2,rfl,y1,y2⟩:=a1;obtain⟨pl,cl,rfl,_,_⟩:=y1.len;obtain⟨pk,ck,rfl,_,_⟩:=y2.len;obtain⟨k,hk⟩:∃ k:Nat,f.U=k:=⟨_,(Int.toNat_of_nonneg hF.1.1).symm⟩
 have GF:k < u.methods.length:=by have:=hF.1;omega
 have Uf:aV u f.U=u.methods[k]:=gU GF hk;obtain⟨j,hj⟩:∃ j:Nat,f.pc=j:=⟨_,(Int.toNat_of_nonneg hF.2.1.1).symm⟩
 have Nz:j < u.methods[k].code.length:=by rw[<-Uf];have:=eB.1;omega
 have GV:hY u f=u.methods[k].code[j]:=by unfold hY;rw[Uf,hj,Int.toNat_natCast];exact kW Nz
 obtain⟨b2,of2,zs,wA,d2,a3⟩:=adv.get GF;obtain⟨p1,c1,p2,c2,p3,c3,p4,c4,rfl,k1,k2,k3,k4,k5,k6,k7,k8,k9,A2,JY,JX⟩:=a3.form;obtain⟨b3,of3,ws,hq3,d3,e1,_⟩:=k6.get Nz;subst e1;have d5:=aE d2 (i:=5) rfl;have fin:T9 u M h1 (.tuple #[.agg #[.int .i64 k,.int .i64 j,.slice pl f.locals.length cl,.slice pk f.stack.length ck],.agg #[.int .i64 u.methods[k].code[j].kind,.int .i64 u.methods[k].code[j].a,.int .i64 u.methods[k].code[j].b],.bool true]):=Or.inr ⟨f,pl,cl,pk,ck,tp,by rw[hk,hj,GV],y1,y2⟩;unfold T9 at fin;rw[hk,hj]at r1;refine ah ?_;conv=>whnf
 rw[show(M.ag.length:Int)-1=((M.ag.length-1:Nat):Int)by omega];refine aq ?_;conv=>whnf
 refine aG hq ?_;conv=>whnf
 refine dJ r1 ?_;conv=>whnf
 repeat' ((first|refine aq ?_|refine aG wA ?_|refine aG hq3 ?_|refine ld d5 ?_|refine dJ d3 ?_|exact⟨l1,fin⟩|apply T_|exact trivial)<;>conv=>whnf)
end Go.Proofs
