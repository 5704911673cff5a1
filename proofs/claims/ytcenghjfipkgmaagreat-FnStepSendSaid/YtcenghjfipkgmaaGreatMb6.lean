/- Lemmas. -/
import Derived.Test.YtcenghjfipkgmaaGreatMb5
set_option linter.unusedSimpArgs false
set_option linter.unusedVariables false
namespace Go.Proofs
open Go.Vc Go.Proofs.Tryz
set_option maxRecDepth 100000
set_option maxHeartbeats 4000000
theorem nj {h0 h:Heap} {bx:Nat} {us:List Value} {u:aO} {x:Sx} {B:List Nat} (hX:XS h0 h bx us u x B) (hn:x.fs.length<=1000) (hs:x.f.stack.length<=1000) (v:Vl) :
  bI prog 164 [.pointer (some ⟨bx,0,none⟩),QW v] h λ_ h'=>XR h0 h bx us u B (dM x v) h':=by
 obtain⟨bf,ht⟩:=hX.tp;obtain⟨t,q,r,v1,p2,c2,B2,kz,hq,o2,gz,r3,fe⟩:=hX.cP ht;have hle:=hX.ma.le;have hlen:=eL bR x.f.stack;have jL:=vz hX ht hn;refine bZ au func164 W5 W6 rfl ?_;conv=>whnf
 refine aj jL ?_;conv=>whnf
 refine ld r3 ?_;conv=>whnf
 apply ax<;>intro g;all_goals conv=>whnf
 ·refine hX.stuck (λh1 fR gh e1=>?_);conv=>whnf
  rw[oU (by omega)];exact⟨B,fR,gh,e1⟩
 repeat' ((first|exact trivial|refine ld r3 ?_|apply T_)<;>conv=>whnf)
 all_goals
  refine dA (h0:=h0) (ys:=[bR v]) o2 gz hle rfl rfl (by simp[bR]) rfl rfl (by simp;omega) (by simp;omega) ?_;intro v' h1 ie g1 g2 g3 g4 g5;have ff:=g2.form;obtain⟨p',c',rfl,pW⟩:=ff;have As:cj h1 (.slice p' (x.f.stack.map bR++[bR v]).length c') (x.f.stack++[v]) ie:=by unfold cj;rw[List.map_append];exact g2
  obtain⟨e1,hR⟩:=fe h1 _ ie (x.f.stack++[v]) x.f.pc g4 As g5;rw[kz]at e1;conv=>whnf
  repeat' ((first|refine st e1 (by simp;omega) ?_)<;>conv=>whnf)
  rw[F6 (i:=3) (by rw[hq]) (by simp),rH (by omega)];exact hR
theorem LC {h0 h:Heap} {bx:Nat} {us:List Value} {u:aO} {x:Sx} {B:List Nat} (hX:XS h0 h bx us u x B) (hn:x.fs.length<=1000) (hs:x.f.stack.length<=1000) :
  bI prog 163 [.pointer (some ⟨bx,0,none⟩)] h λv h'=>v=QW (aZ x).1/\XR h0 h bx us u B (aZ x).2 h'/\∀ bf,Tp h bx x.fs.length bf->rd h' bf (x.fs.length*4+2)=rd h bf (x.fs.length*4+2):=by
 obtain⟨bf,ht⟩:=hX.tp;have Cb:∀ K2,Tp h bx x.fs.length K2->K2=bf:=by
  rintro K2 ⟨c1,k1⟩;obtain⟨c2,k2⟩:=ht;rw[k1]at k2;simp only[v_,Z_,Addr.mk.injEq,and_true,true_and]at k2;exact k2.1
 have acD:bf≠bx:=by
  obtain⟨_,_,_,_,_,_,_,_,_,_,_,_,_,_,AR,_⟩:=hX.lens ht;exact AR
 obtain⟨t,q,r,v1,p2,c2,B2,kz,hq,o2,gz,r3,fe⟩:=hX.cP ht;have hle:=hX.ma.le;have hlen:=eL bR x.f.stack;have jL:=vz hX ht hn;rcases List.eq_nil_or_concat x.f.stack with Iz|⟨l,w,CI⟩
 ·have h0:(List.map bR x.f.stack).length=0:=by rw[Iz];rfl
  refine bZ au func163 RW Qm rfl ?_;conv=>whnf
  refine aj jL ?_;conv=>whnf
  refine ld r3 ?_;conv=>whnf
  refine cx ?_;conv=>whnf
  refine hX.HS (LA:=true) (.inl ⟨rfl,rfl,rfl⟩) (λh1 fR gh e1 k1=>?_);conv=>whnf
  rw[vC Iz];exact⟨rfl,⟨B,fR,gh,e1⟩,λK2 hb=>by rw[Cb K2 hb];unfold rd;rw[k1 bf acD]⟩
 ·rw[List.concat_eq_append]at CI;have ji:x.f.stack.length=l.length+1:=by rw[CI];simp
  have hi:l.length < x.f.stack.length:=by omega
  obtain⟨b2,rfl,r4,_,rfl,_⟩:=o2.two hi;have Ht:x.f.stack[l.length]=w:=by simp[CI]
  rw[Ht]at r4;have e5:(((List.map bR x.f.stack).length:Int)-1).toNat=l.length:=by omega
  have r4':fj h b2 (0+(((List.map bR x.f.stack).length:Int)-1).toNat*2) 2=some (bR w):=by rw[e5];exact r4
  have hc:=o2.form;obtain⟨_,_,he,gF⟩:=hc;simp only[Z_]at he;obtain⟨_,_,rfl⟩:=he;have o3:cj h (.slice (some ⟨b2,0,none⟩) l.length c2) l [b2]:=by
   have:=cr.first (l:=l.length) o2 (by omega);have e6:(List.map bR x.f.stack).take l.length=l.map bR:=by rw[CI];simp
   rw[e6]at this;exact this
  have Ep:=(fe h _ [b2] l x.f.pc (λ_ _ _=>rfl) o3 (λb hb=>.inl hb)).2;rw[<-e5]at Ep;refine bZ au func163 RW Qm rfl ?_;conv=>whnf
  refine aj jL ?_;conv=>whnf
  refine ld r3 ?_;conv=>whnf
  refine bH ?_;conv=>whnf
  repeat' ((first|refine ld r3 ?_|refine dJ r4' ?_|refine aq ?_|refine ah ?_|refine ptr ?_)<;>conv=>whnf)
  refine lP kz (i:=3) [.int .i64 x.f.U,.int .i64 x.f.pc,v1,.slice (some ⟨b2,0,none⟩) (((List.map bR x.f.stack).length:Int)-1).toNat c2] (by omega) (by simp) rfl (λh9 OK g9=>?_);rw[<-OK]at Ep;conv=>whnf
  rw[gA CI];refine⟨rfl,Ep,λK2 hb=>?_⟩;rw[Cb K2 hb,bE kz (i:=2) (by omega) rfl];exact bE (pre:=q) (x:=[.int .i64 x.f.U,.int .i64 x.f.pc,v1,.slice (some ⟨b2,0,none⟩) (((List.map bR x.f.stack).length:Int)-1).toNat c2]) (post:=r) g9 (i:=2) (by omega) rfl
theorem zg {h0 h:Heap} {bx:Nat} {us:List Value} {u:aO} {x:Sx} {B:List Nat} (hX:XS h0 h bx us u x B) (hn:x.fs.length<=1000) (hs:x.f.stack.length<=1000) :
  bI prog 163 [.pointer (some ⟨bx,0,none⟩)] h λv h'=>v=QW (aZ x).1/\XR h0 h bx us u B (aZ x).2 h':=(LC hX hn hs).mono λ_ _ hh=>⟨hh.1,hh.2.1⟩
structure mg (u:aO) (x:Sx):Prop where
 len:7<=x.objs.length/\x.objs.length<=300
 Aj:∀ o∈x.objs,HO u x.objs.length o
 nf:x.fs.length<=3
 iN:xH u x.objs.length x.f
 ft:0<=x.ft
theorem xH.cP {u:aO} {n:Nat} {f:bQ} (h:xH u n f) {l:List Vl} (hl:l.length<=4) (hv:∀ v∈l,kE n v):xH u n {f with stack:=l}:=⟨h.1,h.2.1,h.2.2.1,hl,h.2.2.2.2.1,hv⟩
theorem mg.stuck {u:aO} {x:Sx} (h:mg u x):mg u {x with st:=true}:=⟨h.len,h.Aj,h.nf,h.iN,h.ft⟩
theorem mg.pop {u:aO} {x:Sx} (h:mg u x):mg u (aZ x).2/\kE x.objs.length (aZ x).1:=by
 rcases List.eq_nil_or_concat x.f.stack with hn|⟨l,v,hn⟩
 ·rw[vC hn];exact⟨h.stuck,rF (by decide)⟩
 ·rw[List.concat_eq_append]at hn;rw[gA hn];have h4:=h.iN.2.2.2.1;have h5:=h.iN.2.2.2.2.2;rw[hn]at h4 h5;exact⟨⟨h.len,h.Aj,h.nf,h.iN.cP (by simp at h4;omega) (λw hw=>h5 w (by simp[hw])),h.ft⟩,h5 v (by simp)⟩
theorem mg.word {u:aO} {x:Sx} (h:mg u x):mg u (aB x).2/\-128<=(aB x).1/\(aB x).1<=127:=by
 have hp:=h.pop;unfold aB;split
 ·exact⟨hp.1.stuck,by simp⟩
 ·rename_i hr;exact⟨hp.1,fJ.1 (hp.2.2 (by simpa using hr))⟩
theorem mg.ref {u:aO} {x:Sx} (h:mg u x):mg u (aD x).2/\0<=(aD x).1/\(aD x).1<=x.objs.length:=by
 have hp:=h.pop;unfold aD;split
 ·rename_i hr;exact⟨hp.1,hp.2.1 hr⟩
 ·exact⟨hp.1.stuck,by simp⟩
theorem mg.Zk {u:aO} {x:Sx} (h:mg u x) {k:Int} (hk:0<=k):mg u (cQ x k):=by
 unfold cQ;split
 ·exact⟨h.len,h.Aj,h.nf,h.iN,hk⟩
 ·exact h
theorem mg.push {u:aO} {x:Sx} (h:mg u x) {v:Vl} (hv:kE x.objs.length v):mg u (dM x v):=by
 unfold dM;split
 ·exact h.stuck
 ·refine⟨h.len,h.Aj,h.nf,h.iN.cP (by simp;omega) (λw hw=>?_),h.ft⟩;simp only[u_,V_]at hw;rcases hw with hw|rfl
  ·exact h.iN.2.2.2.2.2 w hw
  ·exact hv
theorem XM.mono {h0 h h':Heap} {bx:Nat} {us:List Value} {u:aO} {M:bM} {sk:Bool} {ft:Int} {B:List Nat} (hX:XM h0 h bx us u M sk ft B) (hl:h.le h'):XM h0 h' bx us u M sk ft B/\Ev h h' (bx::B) (bx::B)/\rd h' bx 3=rd h bx 3:=by
 obtain⟨_,_,_,⟨p,c,r3⟩,_⟩:=hX.me;exact⟨⟨hX.ma.mono hl,hX.un⟩,Ev.of_le hl _ (λb hb=>.inl hb),by rw[r3,aX hl r3]⟩
theorem oy {h0 h:Heap} {bx:Nat} {us:List Value} {u:aO} {x:Sx} {B:List Nat} (hX:XS h0 h bx us u x B) (hs:mg u x) :
  bI prog 166 [.pointer (some ⟨bx,0,none⟩)] h λv h'=>v=.int .i64 (aB x).1/\XR h0 h bx us u B (aB x).2 h':=by
 have LD:=zg hX (by have:=hs.nf;omega) (by have:=hs.iN.2.2.2.1;omega);refine bZ au func166 W7 W8 rfl ?_;conv=>whnf
 refine aC LD (λv h1 hh=>?_);have hv:=hh.1;subst hv;refine hh.2.elim λB1 gS=>?_;have fR:=gS.1;conv=>whnf
 apply eK<;>intro g;all_goals conv=>whnf
 ·refine fR.stuck (λh2 pJ iE e2=>?_);conv=>whnf
  unfold aB;rw[if_pos g];exact⟨rfl,B1,pJ,gS.2.1.trans iE,e2.trans gS.2.2⟩
 ·unfold aB;rw[if_neg (by rw[g];simp)];exact⟨rfl,B1,fR,gS.2⟩
theorem xI {h0 h:Heap} {bx:Nat} {us:List Value} {u:aO} {x:Sx} {B:List Nat} (hX:XS h0 h bx us u x B) (hs:mg u x) :
  bI prog 129 [.pointer (some ⟨bx,0,none⟩)] h λv h'=>v=.int .i64 (aD x).1/\XR h0 h bx us u B (aD x).2 h':=by
 have LD:=zg hX (by have:=hs.nf;omega) (by have:=hs.iN.2.2.2.1;omega);refine bZ au func129 V5 V6 rfl ?_;conv=>whnf
 refine aC LD (λv h1 hh=>?_);have hv:=hh.1;subst hv;refine hh.2.elim λB1 gS=>?_;have fR:=gS.1;conv=>whnf
 apply cJ<;>intro g;all_goals conv=>whnf
 ·refine fR.stuck (λh2 pJ iE e2=>?_);conv=>whnf
  unfold aD;rw[if_neg (by rw[g];simp)];exact⟨rfl,B1,pJ,gS.2.1.trans iE,e2.trans gS.2.2⟩
 ·unfold aD;rw[if_pos g];exact⟨rfl,B1,fR,gS.2⟩
theorem kV {h0 h:Heap} {bx:Nat} {us:List Value} {u:aO} {x:Sx} {B:List Nat} (hX:XS h0 h bx us u x B) (k:Int) :
  bI prog 130 [.pointer (some ⟨bx,0,none⟩),.int .i64 k] h λ_ h'=>XR h0 h bx us u B (cQ x k) h':=by
 obtain⟨_,iM,_⟩:=hX.me;refine bZ au func130 V7 V8 rfl ?_;conv=>whnf
 refine ld iM ?_;conv=>whnf
 apply ax<;>intro g;all_goals conv=>whnf
 ·refine hX.fault (λh2 pJ iE e2=>?_);conv=>whnf
  unfold cQ;rw[if_pos g];exact⟨B,pJ,iE,e2⟩
 ·unfold cQ;rw[if_neg g];exact⟨B,hX,Ev.refl _ _,rfl⟩
theorem XS.j6 {h0 h:Heap} {bx:Nat} {us:List Value} {u:aO} {x:Sx} {B:List Nat} (hX:XS h0 h bx us u x B) {n:Int} (h1:0 < n) (h2:n<=x.objs.length) :
  ∃ bo c v Bi,rd h bx 2=some (.slice (some ⟨bo,0,none⟩) x.objs.length c)/\rd h bo (0+(n-1).toNat*2)=some (.int .i64 (aF x.objs n).cls)/\rd h bo (0+(n-1).toNat*2+1)=some v/\cj h v (aF x.objs n).aW Bi /\
   ∀ h' fX,cj h' v fX Bi->(∀ b,b ∉ Bi->h b≠none->h' b=h b)->XR h0 h bx us u B {x with objs:=ij x.objs n fX } h':=by
 have hi:(n-1).toNat < x.objs.length:=by omega
 obtain⟨bo,c,tm,vf,vs,q,r,t,v,Bi,hb,nH,hq,ov,Cs,adM,iR,fe⟩:=hX.ma.obj (vh x.objs hi);have dj:(x.objs.take (n-1).toNat).length=(n-1).toNat:=by simp;omega
 have ud:aF x.objs n=x.objs[(n-1).toNat]:=vj hi (by omega);refine⟨bo,c,v,Bi,bE hb (i:=0) (by rw[hX.HR]) rfl,by rw[ud];exact bE nH (i:=0) (by omega) rfl,bE nH (i:=1) (by omega) rfl,by rw[ud];exact ov,λh' fX k1 k2=>?_⟩;obtain⟨B',K3,ef⟩:=fe h' fX k1 k2;have ko:ij x.objs n fX=x.objs.take (n-1).toNat++{x.objs[(n-1).toNat]with aW:=fX }::x.objs.drop ((n-1).toNat+1):=by
  unfold ij;rw[ud,List.set_eq_take_append_cons_drop,if_pos hi]
 have Oj:h' bx=h bx:=by
  refine k2 bx (λhx=>?_) (by rw[hb];simp);exact iR (Cs _ hx).1
 refine⟨B',⟨?_,hX.un⟩,⟨λb gL fO=>k2 b (λhx=>fO (by simp[(Cs b hx).1])) gL,λb gL=>.inl ((ef b).1 gL)⟩,by unfold rd;rw[Oj]⟩;show gV h0 h' bx us _ ⟨ij x.objs n fX,_,_,_,_,_⟩ B';rw[ko];exact K3
theorem vD {h0 h:Heap} {bx:Nat} {us:List Value} {u:aO} {x:Sx} {B:List Nat} (hX:XS h0 h bx us u x B) (hs:mg u x) (ok:cI u.J) (n k:Int) (hn:0<=n/\n<=x.objs.length) (hk : -2<=k) :
  bI prog 165 [.pointer (some ⟨bx,0,none⟩),.int .i64 n,.int .i64 k] h λv h'=>XR h0 h bx us u B (bB u x n k) h'/\(∃ bn on,v=.pointer (some ⟨bn,on,none⟩)) /\
   (¬(bB u x n k).bad->0 < n/\bB u x n k=x/\∃ bo c,rd h' bx 2=some (.slice (some ⟨bo,0,none⟩) x.objs.length c)/\v=.pointer (some ⟨bo,0+(n-1).toNat*2,none⟩)):=by
 obtain⟨r9,iM,_,_,_,p,cc,q,d,rfl,r0,r1,r01,hcs,fM⟩:=hX.me;have hl:=hs.len.2;by_cases dO:x.bad
 ·have dW:bB u x n k=x:=if_pos dO;rw[dW];refine bZ au func165 Ov KE rfl ?_;conv=>whnf
  refine ec [.int .i64 0,.slice none 0 0] rfl (λbn h1 gL e1 l1 g1=>?_);have hm:=hX.mono l1;have fR:XS h0 h1 bx _ u x B:=hm.1;have Se:=aX l1 r9;have LF:=aX l1 iM;conv=>whnf
  refine ld Se ?_;conv=>whnf
  have fin:XR h0 h bx [.slice p u.J.length cc,.slice q u.methods.length d] u B x h1:=⟨B,fR,hm.2⟩
  apply eK<;>intro g;all_goals conv=>whnf
  ·exact⟨fin,⟨_,_,rfl⟩,λhx=>absurd dO hx⟩
  ·have xW:0 < x.ft:=by
    rcases dO with hb|hb
    ·rw[g]at hb;cases hb
    ·exact hb
   refine ld LF ?_;conv=>whnf
   refine gI xW ?_;conv=>whnf
   exact⟨fin,⟨_,_,rfl⟩,λhx=>absurd dO hx⟩
 have eB:x.st=false:=by
  cases hh:x.st with
  | false=>rfl
  | true=>exact absurd (.inl hh) dO
 have xW:x.ft=0:=by
  have:=hs.ft;have:¬0 < x.ft:=λhx=>dO (.inr hx);omega
 rw[eB]at r9;rw[xW]at iM;by_cases qP:n=0
 ·have dW:bB u x n k=cQ x 2:=by unfold bB;rw[if_neg dO,if_pos qP]
  have hwb:(cQ x 2).bad:=.inr (by unfold cQ;rw[if_pos xW];show(0:Int) < 2;omega);rw[dW];refine bZ au func165 Ov KE rfl ?_;conv=>whnf
  refine ec [.int .i64 0,.slice none 0 0] rfl (λbn h1 gL e1 l1 g1=>?_);have hm:=hX.mono l1;have fR:XS h0 h1 bx _ u x B:=hm.1;have Se:=aX l1 r9;have LF:=aX l1 iM;conv=>whnf
  repeat' ((first|refine ld Se ?_|refine ld LF ?_|refine aq ?_|refine ah ?_|refine ptr ?_)<;>conv=>whnf)
  refine gI qP ?_;conv=>whnf
  refine aC (kV fR 2) (λv h2 hh=>?_);conv=>whnf
  exact⟨hh.trans hm.2.1 hm.2.2,⟨_,_,rfl⟩,λhx=>absurd hwb hx⟩
 have ud:=hX.j6 (n:=n) (by omega) hn.2;obtain⟨bo,c,v,Bi,q2,q3,_,_,_⟩:=ud;have hO:=hs.Aj _ (iY (objs:=x.objs) (n:=n) (by omega) hn.2);have lI : -2<=(aF x.objs n).cls/\(aF x.objs n).cls < u.J.length:=by
  rcases hO.2 with ⟨h2,_⟩|⟨h2,h3,_⟩
  ·have:=ok.1;omega
  ·omega
 have dW:bB u x n k=if fU u (aF x.objs n).cls k=true then {x with st:=true}else x:=by unfold bB;rw[if_neg dO,if_neg qP]
 generalize (aF x.objs n).cls=cl at q3 lI dW;have gL:fU u cl k=true->bB u x n k = {x with st:=true}:=λhx=>by rw[dW,if_pos hx]
 have fO:fU u cl k=false->bB u x n k=x:=λhx=>by rw[dW,if_neg (by rw[hx];simp)]
 have Ac:=λ(h1:Heap) (l1:h.le h1) (c0:0<=cl) (k0:0<=k)=>tW p u.J.length cc u.J cl k h1 (hcs.le l1 (λ_ _ hx=>hx.le l1)) ok (by omega) (by omega) k0;refine bZ au func165 Ov KE rfl ?_;conv=>whnf
 refine ec [.int .i64 0,.slice none 0 0] rfl (λbn h1 s7 e1 l1 g1=>?_);have hm:=hX.mono l1;have fR:XS h0 h1 bx _ u x B:=hm.1;have Se:=aX l1 r9;have LF:=aX l1 iM;have r0':=aX l1 r0;have QL:=aX l1 q2;have q3':=aX l1 q3;have bad:fU u cl k=true->∀ K:Heap->Prop,(∀ h2,(XR h0 h bx [.slice p u.J.length cc,.slice q u.methods.length d] u B (bB u x n k) h2/\(bB u x n k).bad)->K h2)->St h1 bx 9 [.bool true] K:=λhx K hk =>
  fR.stuck (λh2 pJ iE e2=>hk h2 (by rw[gL hx];exact⟨⟨B,pJ,hm.2.1.trans iE,e2.trans hm.2.2⟩,.inl rfl⟩))
 have OW:fU u cl k=false->XR h0 h bx [.slice p u.J.length cc,.slice q u.methods.length d] u B (bB u x n k) h1/\bB u x n k=x:=λhx=>by rw[fO hx];exact⟨⟨B,fR,hm.2⟩,rfl⟩
 have Au:0+((n:Int)-1).toNat*2=0+(n-1).toNat*2:=rfl;clear gL fO dW hO;conv=>whnf
 repeat' ((first|refine ld Se ?_|refine ld LF ?_|refine aq ?_|refine ah ?_|refine ptr ?_)<;>conv=>whnf)
 refine cM qP ?_;conv=>whnf
 repeat' ((first|refine ld QL ?_|refine aq ?_|refine ah ?_|refine ptr ?_)<;>conv=>whnf)
 apply ax<;>intro gk;all_goals conv=>whnf
 ·repeat' ((first|refine ld q3' ?_|refine aq ?_|refine ah ?_|refine ptr ?_)<;>conv=>whnf)
  apply aT<;>intro g;all_goals conv=>whnf
  ·refine bad (by simp[fU,gk,g]) _ (λh2 hh=>?_);conv=>whnf
   exact⟨hh.1,⟨_,_,rfl⟩,λhx=>absurd hh.2 hx⟩
  ·repeat' ((first|refine bH ?_|refine cx ?_)<;>conv=>whnf)
   have hg:=OW (by simp[fU,g];omega);exact⟨hg.1,⟨_,_,rfl⟩,λ_=>⟨by omega,hg.2,bo,c,QL,rfl⟩⟩
 ·repeat' ((first|refine bH ?_|refine cx ?_)<;>conv=>whnf)
  repeat' ((first|refine ld q3' ?_|refine aq ?_|refine ah ?_|refine ptr ?_)<;>conv=>whnf)
  apply ax<;>intro gc;all_goals conv=>whnf
  ·repeat' ((first|refine ld r0' ?_|refine ld q3' ?_|refine aq ?_|refine ah ?_|refine ptr ?_)<;>conv=>whnf)
   refine aK (Ac h1 l1 gc (by omega)) ?_;conv=>whnf
   apply cJ<;>intro g;all_goals conv=>whnf
   ·refine bad (by simp[fU,g];omega) _ (λh2 hh=>?_);conv=>whnf
    exact⟨hh.1,⟨_,_,rfl⟩,λhx=>absurd hh.2 hx⟩
   ·have hg:=OW (by simp[fU,g];omega);exact⟨hg.1,⟨_,_,rfl⟩,λ_=>⟨by omega,hg.2,bo,c,QL,rfl⟩⟩
  ·repeat' ((first|refine bH ?_|refine cx ?_)<;>conv=>whnf)
   refine bad (by simp[fU];omega) _ (λh2 hh=>?_);conv=>whnf
   exact⟨hh.1,⟨_,_,rfl⟩,λhx=>absurd hh.2 hx⟩
theorem oV (n:Int) (h:Heap):Pure prog 157 [.int .i64 n] h (QW ⟨false,n⟩):=by
 refine iC au func157 WX WY rfl ?_;conv=>whnf
 exact⟨rfl,rfl⟩
theorem nq (n:Int) (h:Heap):Pure prog 135 [.int .i64 n] h (QW ⟨true,n⟩):=by
 refine iC au func135 Wf Wg rfl ?_;conv=>whnf
 exact⟨rfl,rfl⟩
theorem CJ (t:Int) (h:Heap):Pure prog 201 [.int .i64 t] h (QW (nothing t)):=by
 refine iC au func201 X9 Ya rfl ?_;conv=>whnf
 exact⟨rfl,rfl⟩
theorem Gq {h0 h:Heap} {bx:Nat} {us:List Value} {u:aO} {x:Sx} {B:List Nat} (hX:XS h0 h bx us u x B) (hs:mg u x) (o:Ob) {v:Value} {Bv:List Nat} (ho:cj h v o.aW Bv) (hBv:∀ b∈Bv,b ∉ bx::B/\h0 b=none) :
  bI prog 202 [.pointer (some ⟨bx,0,none⟩),.agg #[.int .i64 o.cls,v]] h λ_ h'=>∃ B',XS h0 h' bx us u (jQ x o) B'/\Ev h h' ((bx::B)++Bv) (bx::B')/\rd h' bx 3=rd h bx 3:=by
 obtain⟨r9,iM,⟨p2,c2,r2⟩,_,_,p,cc,q,d,rfl,r0,r1,r01,hcs,fM⟩:=hX.me;have hl:=hs.len.2;have YW:Ev h h ((bx::B)++Bv) (bx::B):=⟨λ_ _ _=>rfl,λb hb=>.inl (u_.2 (.inl hb))⟩
 have Zl:=ho.form;obtain⟨pv,cv,rfl,_⟩:=Zl;by_cases dO:x.bad
 ·have dW:jQ x o=x:=if_pos dO;rw[dW];refine bZ au func202 R0 Qq rfl ?_;conv=>whnf
  refine ld r9 ?_;conv=>whnf
  apply eK<;>intro g;all_goals conv=>whnf
  ·exact⟨B,hX,YW,rfl⟩
  ·have xW:0 < x.ft:=by
    rcases dO with hb|hb
    ·rw[g]at hb;cases hb
    ·exact hb
   refine ld iM ?_;conv=>whnf
   refine gI xW ?_;conv=>whnf
   exact⟨B,hX,YW,rfl⟩
 have eB:x.st=false:=by
  cases hh:x.st with
  | false=>rfl
  | true=>exact absurd (.inl hh) dO
 have xW:x.ft=0:=by
  have:=hs.ft;have:¬0 < x.ft:=λhx=>dO (.inr hx);omega
 have Uo:jQ x o=dM {x with objs:=x.objs++[o]} ⟨true,x.objs.length+1⟩:=if_neg dO;rw[Uo];have hX0:=hX;have OX:=eB;have adN:=xW;rw[eB]at r9;rw[xW]at iM;obtain⟨t,po,co,vf,vs,hb,grow⟩:=hX.ma.YX (show x.CH.objs.length<=1000 by show x.objs.length<=1000;omega);have yV:rd h bx 2=some (.slice po x.objs.length co):=bE hb (i:=0) rfl rfl;have Ed:rd h bx 3=some vf:=bE hb (i:=1) rfl rfl;refine bZ au func202 R0 Qq rfl ?_;conv=>whnf
 repeat' ((first|refine ld r9 ?_|refine ld iM ?_|refine aq ?_|refine ah ?_|refine ptr ?_)<;>conv=>whnf)
 repeat' ((first|exact trivial|refine ld yV ?_|apply T_)<;>conv=>whnf)
 all_goals
  refine grow o Bv _ _ ⟨_,rfl,ho⟩ ho.nd hBv rfl rfl rfl rfl (by simp) ?_;rintro p' c' h2 e1 e2 e3 ⟨B',ND,sY⟩;have fO:=e1.trans hb;conv=>whnf
  refine lP fO (i:=0) (ay (.slice p' (x.CH.objs.length+1) c') vf vs x.CH) rfl (by simp[ay]) (by rfl) (λh3 e4 g4=>?_);have lR:XS h0 h3 bx [.slice p u.J.length cc,.slice q u.methods.length d] u {x with objs:=x.objs++[o]} B':=⟨by rw[e4];exact ND,hX.un⟩
  have q2:rd h3 bx 2=some (.slice p' (x.objs.length+1) c'):=bE g4 (i:=0) rfl rfl;have q3:rd h3 bx 3=some vf:=bE g4 (i:=1) rfl rfl;rw[<-e4]at sY;conv=>whnf
  refine ld q2 ?_;conv=>whnf
  refine aj (nq _ _) ?_;conv=>whnf
  refine aC (nj lR (by have:=hs.nf;show x.fs.length<=1000;omega) (by have:=hs.iN.2.2.2.1;show x.f.stack.length<=1000;omega) ⟨true,((x.objs.length+1:Nat):Int)⟩) (λv h4 hh=>?_);conv=>whnf
  refine hh.elim λB4 hh=>?_;exact⟨B4,hh.1,sY.trans hh.2.1,by rw[hh.2.2,q3,Ed]⟩
theorem OY {h0 h:Heap} {bx:Nat} {us:List Value} {u:aO} {x:Sx} {B:List Nat} (hX:XS h0 h bx us u x B) (hs:mg u x) (ok:cI u.J) (k:Int) (hk:0<=k/\k < u.J.length) :
  bI prog 168 [.pointer (some ⟨bx,0,none⟩),.int .i64 k] h λ_ h'=>XR h0 h bx us u B (Gp u x k) h':=by
 have fW:=hX.ma.in;have hle:=hX.ma.le;obtain⟨r9,iM,_,_,_,p,cc,q,d,rfl,r0,r1,r01,hcs,fM⟩:=hX.me;have Zm:=eH ok hk.2;refine bZ au func168 Xb Xc rfl ?_;conv=>whnf
 refine ld r0 ?_;conv=>whnf
 refine aC (jJ (k.toNat+1) p u.J.length cc u.J k h hcs ok hk.1 hk.2 (by omega)) (λv h1 hh=>?_);refine hh.2.elim λBt iD=>?_;have ot:=iD.1;have nt:=iD.2;have NQ:=hh.1;have hf:=ot.form;refine hf.elim λpt hf=>hf.elim λct hf=>?_;have hv:=hf.1;subst hv;have gz:Gp u x k=jQ x ⟨k,(dw u.J k).map nothing⟩:=rfl;rw[gz];generalize dw u.J k=types at ot Zm gz ⊢;have gE:=eL bN types;conv=>whnf
 refine fh [0,4,5,6] [5] (λs:Nat × Heap × Option Addr × Nat × List Nat=>s.1<=types.length/\h1.le s.2.1/\cj s.2.1 (.slice s.2.2.1 s.1 s.2.2.2.1) ((types.take s.1).map nothing) s.2.2.2.2/\∀ b∈s.2.2.2.2,h1 b=none) (λs=>types.length-s.1)
  (λs=>([.v (.pointer (some ⟨bx,0,none⟩)),.v (.slice pt (types.map bN).length ct),.l 5 0,.v (.int .i64 s.1)],[some [.int .i64 k,.slice s.2.2.1 s.1 s.2.2.2.1]],s.2.1))
  (0,h1,none,0,[]) ⟨by omega,z_ h1,⟨by simp,.inl ⟨rfl,by simp,rfl⟩⟩,by simp⟩ rfl ?_
 rintro⟨i,h2,pp,c,Bv⟩ ⟨hi,l1,ov,nv⟩;simp only at hi l1 ov nv ⊢;conv=>whnf
 apply ax<;>intro g;all_goals conv=>whnf
 ·have bV:i < types.length:=by omega
  have e:=(show dR h2 (.slice pt (types.map bN).length ct) types Bt from ot.aJ (cR.of_le l1 _)).nth (i:=i) (by simpa using bV);obtain⟨b,hq,e1,_⟩:=e;rw[List.getElem_map]at e1;have e2:rd h2 b (0+i*1)=some (.int .i64 types[i]):=by simpa using aE e1 (i:=0) rfl
  refine aq ?_;conv=>whnf
  refine aG hq ?_;conv=>whnf
  refine ld e2 ?_;conv=>whnf
  repeat' ((first|exact trivial|refine aK (CJ _ _) ?_|apply T_)<;>conv=>whnf)
  all_goals
   have dj:((types.take i).map nothing).length=i:=by simp;omega
   refine dA (h0:=h1) (ys:=[bR (nothing types[i])]) ov nv l1 rfl rfl (by simp[bR]) rfl rfl (by simp;omega) (by simp;omega) ?_;intro v' h3 B2 g1 g2 g3 g4 g5;have As:cj h3 v' ((types.take (i+1)).map nothing) B2:=by
    unfold cj;rw[<-List.take_append_getElem bV,List.map_append,List.map_append];exact g2
   obtain⟨p',c',rfl,_⟩:=As.form;have Cv:(((types.take (i+1)).map nothing).map bR).length=i+1:=by simp;omega
   rw[Cv]at As ⊢;conv=>whnf
   refine ah ?_;conv=>whnf
   exact dm (i+1,h3,p',c',B2) ⟨by omega,g1,As,g3⟩ (by simp only;omega) rfl
 ·have mB:i=types.length:=by omega
  subst mB;rw[List.take_length]at ov;have hm:=hX.mono (y_ NQ l1);have qB:∀ b,h1 b=none->h b=none:=λb hb=>by
   cases hh:h b with
   | none=>rfl
   | some o=>rw[NQ b o hh]at hb;cases hb
  have ue:∀ b∈Bv,b ∉ bx::B/\h0 b=none:=by
   intro b bA;have hn:=qB b (nv b bA);refine⟨λhx=>?_,?_⟩
   ·obtain⟨o,ho⟩:=fW b hx;rw[hn]at ho;cases ho
   ·cases hh:h0 b with
    | none=>rfl
    | some o=>rw[hle b o hh]at hn;cases hn
  refine aC (Gq hm.1 hs ⟨k,types.map nothing⟩ ov ue) (λv h3 hh=>?_);conv=>whnf
  refine hh.elim λB3 hh=>?_;refine⟨B3,hh.1,?_,hh.2.2.trans hm.2.2⟩;have:=(Ev.of_le (y_ NQ l1) ((bx::B)++Bv) (S:=bx::B) (λb bA=>(u_.1 bA).imp id (λhx=>qB b (nv b hx)))).trans hh.2.1;exact this
theorem acE {h0 h:Heap} {bx:Nat} {us:List Value} {u:aO} {x:Sx} {B:List Nat} (hX:XS h0 h bx us u x B) (hs:mg u x) (op:Int) :
  bI prog 167 [.pointer (some ⟨bx,0,none⟩),.int .i64 op] h λ_ h'=>XR h0 h bx us u B (LB x op) h':=by
 have kL:=hs.word.1;have Ak:=kL.word.1;refine bZ au func167 W9 Xa rfl ?_;conv=>whnf
 refine aC (oy hX hs) (λv h1 hh=>?_);have hv:=hh.1;subst hv;refine hh.2.elim λB1 gS=>?_;conv=>whnf
 refine aC (oy gS.1 kL) (λv h2 hh=>?_);have hv:=hh.1;subst hv;refine hh.2.elim λB2 iD=>?_;have iE:=gS.2.1.trans iD.2.1;have e2:=iD.2.2.trans gS.2.2;have pJ:=iD.1;conv=>whnf
 refine aj (KI _ _ _ _) ?_;unfold Ue;conv=>whnf
 apply cJ<;>intro g;all_goals conv=>whnf
 ·refine aC (kV pJ 1) (λv h3 hh=>?_);conv=>whnf
  have zd:LB x op=cQ (aB (aB x).2).2 1:=if_neg (by rw[g];simp);rw[zd];exact hh.trans iE e2
 ·refine aj (oV _ _) ?_;conv=>whnf
  refine aC (nj pJ (by have:=Ak.nf;omega) (by have:=Ak.iN.2.2.2.1;omega) ⟨false,(iJ op (aB (aB x).2).1 (aB x).1).1⟩) (λv h3 hh=>?_);conv=>whnf
  have zd:LB x op=dM (aB (aB x).2).2 ⟨false,(iJ op (aB (aB x).2).1 (aB x).1).1⟩:=if_pos g;rw[zd];exact hh.trans iE e2
theorem OZ {h0 h:Heap} {bx:Nat} {us:List Value} {u:aO} {x:Sx} {B:List Nat} (hX:XS h0 h bx us u x B) (hs:mg u x) (k:Int) (hk:k=0\/k=1) :
  bI prog 169 [.pointer (some ⟨bx,0,none⟩),.int .i64 k] h λ_ h'=>XR h0 h bx us u B (ox x k) h':=by
 have fW:=hX.ma.in;have hle:=hX.ma.le;have kL:=hs.word.1;have hwd:=hs.word.2;have NC:ox x k=jQ (if 0<=(aB x).1/\(aB x).1<=6 then (aB x).2 else cQ (aB x).2 4) (ni k (aB x).1):=rfl;rw[NC];refine bZ au func169 Xd Xe rfl ?_;conv=>whnf
 refine aC (oy hX hs) (λv h1 hh=>?_);have hv:=hh.1;subst hv;refine hh.2.elim λB1 gS=>?_;have fR:=gS.1;have gh:=gS.2.1;have e1:=gS.2.2;conv=>whnf
 refine aj (dP _ _ _ _) ?_;conv=>whnf
 apply aT<;>intro g;all_goals conv=>whnf
 ·refine aC (kV fR 4) (λv h2 hh=>?_);refine hh.elim λB2 iD=>?_;have pJ:=iD.1;have iE:=gh.trans iD.2.1;have e2:=iD.2.2.trans e1;have Ak:=kL.Zk (k:=4) (by omega);rw[if_neg g];conv=>whnf
  have hm:(ni k (aB x).1).aW.length=(min (aB x).1 6).toNat:=by simp[ni]
  have LG:(ni k (aB x).1).cls = -1-k:=rfl;generalize hwn:(aB x).1=n at hm LG hwd g ⊢;obtain⟨m,Sp⟩:∃ m,m=(min n 6).toNat:=⟨_,rfl⟩
  have xJ:(ni k n).aW=List.replicate m ⟨decide (k=1),0⟩:=by rw[Sp];rfl
  refine ah ?_;conv=>whnf
  refine fh [0,1,4,5,6] [5] (λs:Nat × Heap × Option Addr × Nat × List Nat=>s.1<=m/\h2.le s.2.1/\cj s.2.1 (.slice s.2.2.1 s.1 s.2.2.2.1) (List.replicate s.1 ⟨decide (k=1),0⟩) s.2.2.2.2/\∀ b∈s.2.2.2.2,h2 b=none) (λs=>m-s.1)
   (λs=>([.v (.pointer (some ⟨bx,0,none⟩)),.v (.int .i64 k),.v (.int .i64 n),.l 5 0,.v (.int .i64 s.1)],[some [.int .i64 (-1-k),.slice s.2.2.1 s.1 s.2.2.2.1]],s.2.1))
   (0,h2,none,0,[]) ⟨by omega,z_ h2,⟨by simp,.inl ⟨rfl,by simp,rfl⟩⟩,by simp⟩ rfl ?_
  rintro⟨i,h5,pp,c,Bv⟩ ⟨hi,l1,ov,nv⟩;simp only at hi l1 ov nv ⊢;conv=>whnf
  have step:i < m->App 16 2 [.bool false,.int .i64 0] 31 h5 pp i c 1 [.bool (decide (k=1)),.int .i64 0] (λv' h6=>∃ p' c',v'=.slice p' (i+1) c'/\∃ B6,h2.le h6/\cj h6 (.slice p' (i+1) c') (List.replicate (i+1) ⟨decide (k=1),0⟩) B6/\∀ b∈B6,h2 b=none):=by
   intro Fk;have hli:((List.replicate i (⟨decide (k=1),0⟩:Vl)).map bR).length=i:=by simp
   refine dA (h0:=h2) (ys:=[bR ⟨decide (k=1),0⟩]) ov nv l1 rfl rfl (by simp[bR]) rfl rfl (by simp;omega) (by simp;omega) ?_;intro v' h6 B6 g1 g2 g3 g4 g5;have As:cj h6 v' (List.replicate (i+1) ⟨decide (k=1),0⟩) B6:=by
    unfold cj;rw[List.replicate_succ',List.map_append];exact g2
   obtain⟨p',c',rfl,_⟩:=As.form;have Cv:((List.replicate (i+1) (⟨decide (k=1),0⟩:Vl)).map bR).length=i+1:=by simp
   rw[Cv]at As ⊢;exact⟨p',c',rfl,B6,g1,As,g3⟩
  by_cases Fk:i < m
  ·refine cx ?_;conv=>whnf
   refine cx ?_;conv=>whnf
   refine(step Fk).mono (λv' h6 hh=>?_);refine hh.elim λp' hh=>hh.elim λc' hh=>?_;have hv:=hh.1;subst hv;refine hh.2.elim λB6 hh=>?_;conv=>whnf
   refine ah ?_;conv=>whnf
   exact dm (i+1,h6,p',c',B6) ⟨by omega,hh⟩ (by simp only;omega) rfl
  ·have mB:i=m:=by omega
   subst mB;have fin:∀ {v:Value} {h9:Heap},(∃ B',XS h0 h9 bx us u (jQ (cQ (aB x).2 4) (ni k n)) B'/\Ev h5 h9 ((bx::B2)++Bv) (bx::B')/\rd h9 bx 3=rd h5 bx 3)->XR h0 h bx us u B (jQ (cQ (aB x).2 4) (ni k n)) h9:=by
    intro v h9 hh;obtain⟨B9,k1,k2,k3⟩:=hh;obtain⟨_,_,k4⟩:=XM.mono pJ l1;refine⟨B9,k1,iE.trans ((Ev.of_le l1 ((bx::B2)++Bv) (λb bA=>(u_.1 bA).imp id (nv b))).trans k2),k3.trans (k4.trans e2)⟩
   have ue:∀ b∈Bv,b ∉ bx::B2/\h0 b=none:=by
    intro b bA;have hn:=nv b bA;refine⟨λhx=>?_,?_⟩
    ·obtain⟨o,ho⟩:=pJ.ma.in b hx;rw[hn]at ho;cases ho
    ·cases hh:h0 b with
     | none=>rfl
     | some o=>rw[pJ.ma.le b o hh]at hn;cases hn
   have ov':cj h5 (.slice pp i c) (ni k n).aW Bv:=by rw[xJ];exact ov
   have zh:=Gq (XM.mono pJ l1).1 Ak (ni k n) ov' ue;rw[show(ni k n).cls = -1-k from rfl]at zh;by_cases yS:(i:Int) < n
   ·refine gI yS ?_;conv=>whnf
    refine bH ?_;conv=>whnf
    refine aC zh (λv h9 hh=>?_);conv=>whnf
    exact fin (v:=v) hh
   ·refine cM yS ?_;conv=>whnf
    refine aC zh (λv h9 hh=>?_);conv=>whnf
    exact fin (v:=v) hh
 ·rw[if_pos g];have hm:(ni k (aB x).1).aW.length=(min (aB x).1 6).toNat:=by simp[ni]
  have LG:(ni k (aB x).1).cls = -1-k:=rfl;generalize hwn:(aB x).1=n at hm LG hwd g ⊢;obtain⟨m,Sp⟩:∃ m,m=(min n 6).toNat:=⟨_,rfl⟩
  have xJ:(ni k n).aW=List.replicate m ⟨decide (k=1),0⟩:=by rw[Sp];rfl
  refine ah ?_;conv=>whnf
  refine fh [0,1,4,5,6] [5] (λs:Nat × Heap × Option Addr × Nat × List Nat=>s.1<=m/\h1.le s.2.1/\cj s.2.1 (.slice s.2.2.1 s.1 s.2.2.2.1) (List.replicate s.1 ⟨decide (k=1),0⟩) s.2.2.2.2/\∀ b∈s.2.2.2.2,h1 b=none) (λs=>m-s.1)
   (λs=>([.v (.pointer (some ⟨bx,0,none⟩)),.v (.int .i64 k),.v (.int .i64 n),.l 5 0,.v (.int .i64 s.1)],[some [.int .i64 (-1-k),.slice s.2.2.1 s.1 s.2.2.2.1]],s.2.1))
   (0,h1,none,0,[]) ⟨by omega,z_ h1,⟨by simp,.inl ⟨rfl,by simp,rfl⟩⟩,by simp⟩ rfl ?_
  rintro⟨i,h5,pp,c,Bv⟩ ⟨hi,l1,ov,nv⟩;simp only at hi l1 ov nv ⊢;conv=>whnf
  have step:i < m->App 16 2 [.bool false,.int .i64 0] 31 h5 pp i c 1 [.bool (decide (k=1)),.int .i64 0] (λv' h6=>∃ p' c',v'=.slice p' (i+1) c'/\∃ B6,h1.le h6/\cj h6 (.slice p' (i+1) c') (List.replicate (i+1) ⟨decide (k=1),0⟩) B6/\∀ b∈B6,h1 b=none):=by
   intro Fk;have hli:((List.replicate i (⟨decide (k=1),0⟩:Vl)).map bR).length=i:=by simp
   refine dA (h0:=h1) (ys:=[bR ⟨decide (k=1),0⟩]) ov nv l1 rfl rfl (by simp[bR]) rfl rfl (by simp;omega) (by simp;omega) ?_;intro v' h6 B6 g1 g2 g3 g4 g5;have As:cj h6 v' (List.replicate (i+1) ⟨decide (k=1),0⟩) B6:=by
    unfold cj;rw[List.replicate_succ',List.map_append];exact g2
   obtain⟨p',c',rfl,_⟩:=As.form;have Cv:((List.replicate (i+1) (⟨decide (k=1),0⟩:Vl)).map bR).length=i+1:=by simp
   rw[Cv]at As ⊢;exact⟨p',c',rfl,B6,g1,As,g3⟩
  by_cases Fk:i < m
  ·refine cx ?_;conv=>whnf
   refine cx ?_;conv=>whnf
   refine(step Fk).mono (λv' h6 hh=>?_);refine hh.elim λp' hh=>hh.elim λc' hh=>?_;have hv:=hh.1;subst hv;refine hh.2.elim λB6 hh=>?_;conv=>whnf
   refine ah ?_;conv=>whnf
   exact dm (i+1,h6,p',c',B6) ⟨by omega,hh⟩ (by simp only;omega) rfl
  ·have mB:i=m:=by omega
   subst mB;have fin:∀ {v:Value} {h9:Heap},(∃ B',XS h0 h9 bx us u (jQ (aB x).2 (ni k n)) B'/\Ev h5 h9 ((bx::B1)++Bv) (bx::B')/\rd h9 bx 3=rd h5 bx 3)->XR h0 h bx us u B (jQ (aB x).2 (ni k n)) h9:=by
    intro v h9 hh;obtain⟨B9,k1,k2,k3⟩:=hh;obtain⟨_,_,k4⟩:=XM.mono fR l1;refine⟨B9,k1,gh.trans ((Ev.of_le l1 ((bx::B1)++Bv) (λb bA=>(u_.1 bA).imp id (nv b))).trans k2),k3.trans (k4.trans e1)⟩
   have ue:∀ b∈Bv,b ∉ bx::B1/\h0 b=none:=by
    intro b bA;have hn:=nv b bA;refine⟨λhx=>?_,?_⟩
    ·obtain⟨o,ho⟩:=fR.ma.in b hx;rw[hn]at ho;cases ho
    ·cases hh:h0 b with
     | none=>rfl
     | some o=>rw[fR.ma.le b o hh]at hn;cases hn
   have ov':cj h5 (.slice pp i c) (ni k n).aW Bv:=by rw[xJ];exact ov
   have zh:=Gq (XM.mono fR l1).1 kL (ni k n) ov' ue;rw[show(ni k n).cls = -1-k from rfl]at zh;by_cases yS:(i:Int) < n
   ·refine gI yS ?_;conv=>whnf
    refine bH ?_;conv=>whnf
    refine aC zh (λv h9 hh=>?_);conv=>whnf
    exact fin (v:=v) hh
   ·refine cM yS ?_;conv=>whnf
    refine aC zh (λv h9 hh=>?_);conv=>whnf
    exact fin (v:=v) hh
theorem mg.CK {u:aO} {x:Sx} (h:mg u x):x.fs.length<=1000:=by have:=h.nf;omega
theorem mg.yf {u:aO} {x:Sx} (h:mg u x):x.f.stack.length<=1000:=by have:=h.iN.2.2.2.1;omega
theorem SH {h0 h:Heap} {bx:Nat} {us:List Value} {u:aO} {x:Sx} {B:List Nat} (hX:XS h0 h bx us u x B) (hs:mg u x) :
  bI prog 170 [.pointer (some ⟨bx,0,none⟩)] h λ_ h'=>XR h0 h bx us u B (tJ x) h':=by
 have kL:=hs.ref;have hsz:tJ x=if 0 < (aD x).1/\(aD x).2.st=false/\0<=(aF (aD x).2.objs (aD x).1).cls then { (aD x).2 with st:=true}else if (aD x).1=0 then cQ (aD x).2 2 else dM (aD x).2 ⟨false,(aF (aD x).2.objs (aD x).1).aW.length⟩:=rfl
 have vq:(aD x).2.objs.length=x.objs.length:=by rw[(j9 x).2.1]
 have hlen:=hs.len.2;rw[hsz];clear hsz;have I6:=xI hX hs;generalize hn:(aD x).1=n at kL I6 ⊢;generalize hy:(aD x).2=y at kL I6 vq ⊢;refine bZ au func170 Xf Xg rfl ?_;conv=>whnf
 refine aC I6 (λv h1 hh=>?_);have hv:=hh.1;subst hv;refine hh.2.elim λB1 gS=>?_;have fR:=gS.1;have gh:=gS.2.1;have e1:=gS.2.2;have r9:=fR.me.1;conv=>whnf
 by_cases qP:n=0
 ·rw[if_neg (by omega),if_pos qP];refine bH ?_;conv=>whnf
  repeat' ((first|refine cx ?_|refine bH ?_)<;>conv=>whnf)
  refine aC (kV fR 2) (λv h3 hh=>?_);conv=>whnf
  exact hh.trans gh e1
 ·have AX:0 < n:=by omega
  refine(fR.j6 AX (by omega)).elim λbo hq=>hq.elim λco hq=>hq.elim λvv hq=>hq.elim λBi hq=>?_;have q1:=hq.1;have q3:=hq.2.1;have q2:=hq.2.2.1;have ov:=hq.2.2.2.1;refine ov.form.elim λpv hf=>hf.elim λcv hf=>?_;have hv:=hf.1;subst hv;have NR:=eL bR (aF y.objs n).aW;refine gI AX ?_;conv=>whnf
  refine ld r9 ?_;conv=>whnf
  have push:∀ {z:Sx},z=dM y ⟨false,(aF y.objs n).aW.length⟩->bI prog 164 [.pointer (some ⟨bx,0,none⟩),QW ⟨false,((List.map bR (aF y.objs n).aW).length:Int)⟩] h1 λ_ h'=>XR h0 h bx us u B z h':=λhz=>by
   rw[hz,NR];exact(nj fR kL.1.CK kL.1.yf _).mono (λ_ _ hh=>hh.trans gh e1)
  apply cJ<;>intro g;all_goals conv=>whnf
  ·repeat' ((first|refine ld q1 ?_|refine ld q3 ?_|refine aq ?_|refine ah ?_|refine ptr ?_)<;>conv=>whnf)
   apply ax<;>intro gc;all_goals conv=>whnf
   ·rw[if_pos ⟨AX,g,gc⟩];refine fR.stuck (λh2 pJ iE e2=>?_);conv=>whnf
    exact⟨B1,pJ,gh.trans iE,e2.trans e1⟩
   ·rw[if_neg (λhx=>gc hx.2.2),if_neg qP];refine cM qP ?_;conv=>whnf
    repeat' ((first|refine ld q1 ?_|refine ld q2 ?_|refine aq ?_|refine ah ?_|refine ptr ?_)<;>conv=>whnf)
    refine aj (oV _ _) ?_;conv=>whnf
    refine aC (push rfl) (λv h3 hh=>?_);conv=>whnf
    exact hh
  ·rw[if_neg (λhx=>by rw[g]at hx;cases hx.2.1),if_neg qP];refine cM qP ?_;conv=>whnf
   repeat' ((first|refine ld q1 ?_|refine ld q2 ?_|refine aq ?_|refine ah ?_|refine ptr ?_)<;>conv=>whnf)
   refine aj (oV _ _) ?_;conv=>whnf
   refine aC (push rfl) (λv h3 hh=>?_);conv=>whnf
   exact hh
theorem I7 (h:Heap) (bo n c:Nat) (k cls:Int) (hr:rd h bo (0+(k-1).toNat*2)=some (.int .i64 cls)) (hk:0 < k/\k<=n) (hn:n<=1000) (hc : -2<=cls/\cls<=900) :
  Pure prog 66 [.slice (some ⟨bo,0,none⟩) n c,.agg #[.bool true,.int .i64 k]] h (.int .i64 (typeOf cls)):=by
 refine iC au func66 F66 Vm rfl ?_;conv=>whnf
 refine bH ?_;conv=>whnf
 repeat' ((first|refine ld hr ?_|refine aq ?_|refine ah ?_|refine ptr ?_)<;>conv=>whnf)
 unfold typeOf;by_cases h1:cls = -1
 ·subst h1;repeat' ((first|refine cx ?_|refine bH ?_|refine dF ?_|refine cN ?_|apply ax<;>intro _|apply aT<;>intro _|apply eK<;>intro _|apply cJ<;>intro _|refine aq ?_|refine ah ?_|refine ptr ?_)<;>conv=>whnf)
  exact⟨rfl,rfl⟩
 ·by_cases h2:cls = -2
  ·subst h2;repeat' ((first|refine cx ?_|refine bH ?_|refine dF ?_|refine cN ?_|apply ax<;>intro _|apply aT<;>intro _|apply eK<;>intro _|apply cJ<;>intro _|refine aq ?_|refine ah ?_|refine ptr ?_)<;>conv=>whnf)
   exact⟨rfl,rfl⟩
  ·rw[if_neg h1,if_neg h2];repeat' ((first|refine cx ?_|refine bH ?_|refine dF ?_|refine cN ?_|apply ax<;>intro _|apply aT<;>intro _|apply eK<;>intro _|apply cJ<;>intro _|refine aq ?_|refine ah ?_|refine ptr ?_|refine ld hr ?_)<;>conv=>whnf)
   all_goals first|(exfalso;omega)|exact⟨rfl,rfl⟩
theorem SI {h0 h:Heap} {bx:Nat} {us:List Value} {u:aO} {x:Sx} {B:List Nat} (hX:XS h0 h bx us u x B) (hs:mg u x) (ok:cI u.J) (k:Int) (hk:0<=k/\k < u.J.length) :
  bI prog 173 [.pointer (some ⟨bx,0,none⟩),.int .i64 k] h λ_ h'=>XR h0 h bx us u B (tK u x k) h':=by
 have kL:=hs.ref;have hsz:tK u x k=if (aD x).2.st=true then (aD x).2 else if 0 < (aD x).1/\iy u.J (typeOf (aF (aD x).2.objs (aD x).1).cls) (8+k)=false then cQ (aD x).2 5 else dM (aD x).2 ⟨true,(aD x).1⟩:=rfl
 have vq:(aD x).2.objs.length=x.objs.length:=by rw[(j9 x).2.1]
 have hlen:=hs.len.2;have zi:=ok.2.1;rw[hsz];clear hsz;have I6:=xI hX hs;generalize hn:(aD x).1=n at kL I6 ⊢;generalize hy:(aD x).2=y at kL I6 vq ⊢;refine bZ au func173 Xh Xi rfl ?_;conv=>whnf
 refine aC I6 (λv h1 hh=>?_);have hv:=hh.1;subst hv;refine hh.2.elim λB1 gS=>?_;have fR:=gS.1;have gh:=gS.2.1;have e1:=gS.2.2;refine fR.me.2.2.2.2.2.elim λp hr=>hr.elim λcc hr=>hr.elim λq hr=>hr.elim λd hr=>?_;have r9:=fR.me.1;have r0:=hr.2.1;have hcs:=hr.2.2.2.2.1;conv=>whnf
 refine ld r9 ?_;conv=>whnf
 apply eK<;>intro g;all_goals conv=>whnf
 ·rw[if_pos g];exact⟨B1,fR,gh,e1⟩
 rw[if_neg (by rw[g];simp)];by_cases qP:n=0
 ·rw[if_neg (by omega)];refine bH ?_;conv=>whnf
  refine aj (nq _ _) ?_;conv=>whnf
  refine aC (nj fR kL.1.CK kL.1.yf ⟨true,n⟩) (λv h3 hh=>?_);conv=>whnf
  exact hh.trans gh e1
 ·have AX:0 < n:=by omega
  refine(fR.j6 AX (by omega)).elim λbo hq=>hq.elim λco hq=>hq.elim λvv hq=>hq.elim λBi hq=>?_;have q1:=hq.1;have q3:=hq.2.1;have hO:=kL.1.Aj _ (iY (objs:=y.objs) AX (by omega));have lI : -2<=(aF y.objs n).cls/\(aF y.objs n).cls < u.J.length:=by
   rcases hO.2 with ⟨h2,_⟩|⟨h2,h3,_⟩
   ·have:=ok.1;omega
   ·omega
  have N9:=I7 h1 bo y.objs.length co n (aF y.objs n).cls q3 ⟨AX,by omega⟩ (by omega) (by omega);have Di:typeOf (aF y.objs n).cls < 8+u.J.length:=by unfold typeOf;repeat' split;all_goals omega
  have fW:=qe p u.J.length cc u.J (typeOf (aF y.objs n).cls) (8+k) h1 hcs ok Di (by omega);refine gI AX ?_;conv=>whnf
  repeat' ((first|refine ld r0 ?_|refine ld q1 ?_|refine aK (nq _ _) ?_|refine aK N9 ?_|refine aK fW ?_|refine aq ?_|refine ah ?_|refine ptr ?_)<;>conv=>whnf)
  apply cJ<;>intro gt;all_goals conv=>whnf
  ·rw[if_pos ⟨AX,gt⟩];refine aC (kV fR 5) (λv h3 hh=>?_);conv=>whnf
   exact hh.trans gh e1
  ·rw[if_neg (λhx=>by rw[gt]at hx;cases hx.2)];refine aj (nq _ _) ?_;conv=>whnf
   refine aC (nj fR kL.1.CK kL.1.yf ⟨true,n⟩) (λv h3 hh=>?_);conv=>whnf
   exact hh.trans gh e1
theorem lC {u:aO} {x:Sx} {n k:Int} (hs:mg u x) (h:¬(bB u x n k).bad):fU u (aF x.objs n).cls k=false:=by
 unfold bB at h;split at h
 ·rename_i hb;exact absurd hb h
 ·rename_i hb;have xW:x.ft=0:=by
   have:=hs.ft;have:¬0 < x.ft:=λhx=>hb (.inr hx);omega
  split at h
  ·refine absurd ?_ h;unfold cQ Sx.bad;rw[if_pos xW];exact .inr (by show(0:Int) < 2;omega)
  ·split at h
   ·exact absurd (.inl rfl) h
   ·rename_i h2;simpa using h2
theorem XS.CL {h0 h:Heap} {bx:Nat} {us:List Value} {u:aO} {y:Sx} {B:List Nat} (hX:XS h0 h bx us u y B) {n:Int} (qP:0 < n) (hle:n<=y.objs.length) {i:Nat} (hi:i < (aF y.objs n).aW.length) :
  ∃ bo c bv cv,rd h bx 2=some (.slice (some ⟨bo,0,none⟩) y.objs.length c)/\rd h bo (0+(n-1).toNat*2+1)=some (.slice (some ⟨bv,0,none⟩) (List.map bR (aF y.objs n).aW).length cv)/\fj h bv (0+i*2) 2=some (bR ((aF y.objs n).aW.getD i cU)) /\
   ∀(v:Vl) (K:Heap->Prop),(∀ h',XR h0 h bx us u B {y with objs:=ij y.objs n ((aF y.objs n).aW.set i v)} h'->K h')->St h bv (0+i*2) [.bool v.ref,.int .i64 v.n] K:=by
 obtain⟨bo,c,v,Bi,q1,q3,q2,ov,fe⟩:=hX.j6 qP hle;obtain⟨pv,cv,rfl,_⟩:=ov.form;obtain⟨b0,e0,r0,_,_,_⟩:=ov.two hi;obtain⟨bv,pre,xx,post,tt,Gf,_,Sb,fV,Ae,rfl,Cy⟩:=cr.put ov hi;rw[Gf]at e0;simp only[v_,Addr.mk.injEq,and_true]at e0;subst e0;subst Gf;refine⟨bo,c,bv,cv,q1,q2,by rw[sI hi];exact r0,λv K hk=>?_⟩;have hw:eS (pre++xx++post) (0+i*2) [.bool v.ref,.int .i64 v.n]=pre++bR v++post:=m4 (by omega) (by rw[Ae];rfl);refine Ag Sb (pre++bR v++post) (by simp[Ae,bR,fV]<;>omega) hw (λh' e1 g1=>?_);exact hk h' (fe h' _ (Cy _ v g1) (λb hb _=>by rw[e1];simp only[Heap.set];rw[if_neg (by simpa using hb)]))
theorem Gr {h0 h:Heap} {bx:Nat} {us:List Value} {u:aO} {x:Sx} {B:List Nat} (hX:XS h0 h bx us u x B) (hs:mg u x) (ok:cI u.J) (k:Int) (hk:k=0\/k=1) :
  bI prog 171 [.pointer (some ⟨bx,0,none⟩),.int .i64 k,.bool true] h λ_ h'=>XR h0 h bx us u B (vB u x k true) h':=by
 have LH:vB u x k true=if (bB u (aD (aB (aZ x).2).2).2 (aD (aB (aZ x).2).2).1 (-1-k)).bad then bB u (aD (aB (aZ x).2).2).2 (aD (aB (aZ x).2).2).1 (-1-k)else if ¬(0<=(aB (aZ x).2).1/\(aB (aZ x).2).1 < (aF (bB u (aD (aB (aZ x).2).2).2 (aD (aB (aZ x).2).2).1 (-1-k)).objs (aD (aB (aZ x).2).2).1).aW.length)then cQ (bB u (aD (aB (aZ x).2).2).2 (aD (aB (aZ x).2).2).1 (-1-k)) 3 else I5 (bB u (aD (aB (aZ x).2).2).2 (aD (aB (aZ x).2).2).1 (-1-k)) (aD (aB (aZ x).2).2).1 (aB (aZ x).2).1 (aZ x).1:=rfl
 rw[LH];refine bZ au func171 RX Qn rfl ?_;conv=>whnf
 refine aC (zg hX hs.CK hs.yf) (λv h1 hh=>?_);have hv:=hh.1;subst hv;refine hh.2.elim λB1 gS=>?_;have fR:=gS.1;have gh:=gS.2.1;have e1:=gS.2.2;have kL:=hs.pop.1;have Uk:=hs.pop.2;have SJ:(aZ x).2.objs=x.objs:=(mC x).2.1;rw[<-SJ]at Uk;conv=>whnf
 refine aC (oy fR kL) (λv h2 hh=>?_);have hv:=hh.1;subst hv;refine hh.2.elim λB2 iD=>?_;have pJ:=iD.1;have iE:=gh.trans iD.2.1;have e2:=iD.2.2.trans e1;have Ak:=kL.word;conv=>whnf
 refine aC (xI pJ Ak.1) (λv h3 hh=>?_);have hv:=hh.1;subst hv;refine hh.2.elim λB3 kB=>?_;have lR:=kB.1;have sY:=iE.trans kB.2.1;have e3:=kB.2.2.trans e2;have tg:=mg.ref Ak.1;conv=>whnf
 refine ah ?_;conv=>whnf
 refine aC (vD lR tg.1 ok _ (-1-k) (by rw[(j9 _).2.1];exact tg.2) (by omega)) (λv h4 hh=>?_);refine hh.2.1.elim λbn hv=>hv.elim λon hv=>?_;subst hv;refine hh.1.elim λB4 yg=>?_;have mD:=yg.1;have oW:=hh.2.2;have Ah:=sY.trans yg.2.1;have e4:=yg.2.2.trans e3;by_cases dO:(bB u (aD (aB (aZ x).2).2).2 (aD (aB (aZ x).2).2).1 (-1-k)).bad
 ·rw[if_pos dO];have r9:=mD.me.1;have iM:=mD.me.2.1;conv=>whnf
  refine ld r9 ?_;conv=>whnf
  apply eK<;>intro g;all_goals conv=>whnf
  ·exact⟨B4,mD,Ah,e4⟩
  ·refine ld iM ?_;conv=>whnf
   refine gI (dO.resolve_left (by rw[g];simp)) ?_;conv=>whnf
   exact⟨B4,mD,Ah,e4⟩
 rw[if_neg dO];have hg:=oW dO;have qP:=hg.1;have dW:=hg.2.1;have tR:=lC tg.1 dO;refine hg.2.2.elim λbo hg=>hg.elim λco hg=>?_;have nH:=hg.1;have hp:=hg.2;simp only[Value.pointer.injEq,v_,Addr.mk.injEq,and_true]at hp;have xK:=hp.1;have CM:=hp.2;subst xK;subst CM;rw[dW]at dO mD ⊢;have eB:(aD (aB (aZ x).2).2).2.st=false:=by
  cases hh:(aD (aB (aZ x).2).2).2.st with
  | false=>rfl
  | true=>exact absurd (.inl hh) dO
 have xW:(aD (aB (aZ x).2).2).2.ft=0:=by
  have h1:=tg.1.ft;have h2:¬0 < (aD (aB (aZ x).2).2).2.ft:=λhx=>dO (.inr hx);omega
 have r9:=mD.me.1;have iM:=mD.me.2.1;rw[eB]at r9;rw[xW]at iM;conv=>whnf
 repeat' ((first|refine ld r9 ?_|refine ld iM ?_|refine aq ?_|refine ah ?_|refine ptr ?_)<;>conv=>whnf)
 have hle:(aD (aB (aZ x).2).2).1<=(aD (aB (aZ x).2).2).2.objs.length:=by rw[(j9 _).2.1];exact tg.2.2
 refine(mD.j6 qP hle).elim λbo2 hq=>hq.elim λUm hq=>hq.elim λvv hq=>hq.elim λBi hq=>?_;have qp:=hq.1;rw[nH]at qp;simp only[v_,Z_,Addr.mk.injEq,and_true,true_and]at qp;have fO:=qp.1;subst fO;have q2:=hq.2.2.1;have ov:=hq.2.2.2.1;have fe:=hq.2.2.2.2;have hO:=tg.1.Aj _ (iY qP hle);refine ov.form.elim λpv hf=>hf.elim λcv hf=>?_;have hv:=hf.1;subst hv;have NR:=eL bR (aF (aD (aB (aZ x).2).2).2.objs (aD (aB (aZ x).2).2).1).aW;have hv8:(aF (aD (aB (aZ x).2).2).2.objs (aD (aB (aZ x).2).2).1).aW.length<=8:=by
  rcases hO.2 with ⟨_,h2⟩|⟨_,h3,h4⟩
  ·omega
  ·rw[h4];exact eH ok h3
 repeat' ((first|refine ld q2 ?_|refine aq ?_|refine ah ?_|refine ptr ?_)<;>conv=>whnf)
 refine aj (dP _ _ _ _) ?_;conv=>whnf
 by_cases Zn:0<=(aB (aZ x).2).1/\(aB (aZ x).2).1 < (aF (aD (aB (aZ x).2).2).2.objs (aD (aB (aZ x).2).2).1).aW.length
 rotate_left
 ·rw[if_pos Zn];apply aT<;>intro g;all_goals conv=>whnf
  ·refine aC (kV mD 3) (λv h9 hh=>?_);conv=>whnf
   exact hh.trans Ah e4
  ·exfalso;omega
 rw[if_neg (by simpa using Zn)];apply aT<;>intro g;all_goals conv=>whnf
 ·exfalso;omega
 have SK:((aB (aZ x).2).1).toNat < (aF (aD (aB (aZ x).2).2).2.objs (aD (aB (aZ x).2).2).1).aW.length:=by omega
 refine(mD.CL qP hle SK).elim λbo3 hz=>hz.elim λZo hz=>hz.elim λbv hz=>hz.elim λcv3 hz=>?_;have z1:=hz.1;have z2:=hz.2.1;have z3:=hz.2.2.1;have z4:=hz.2.2.2;rw[nH]at z1;simp only[v_,Z_,Addr.mk.injEq,and_true,true_and]at z1;have zb:=z1.1;subst zb;rw[z2]at q2;simp only[v_,Z_,true_and]at q2;have zp:=q2.1;have zc:=q2.2;subst zp;subst zc;repeat' ((first|exact trivial|refine ld z2 ?_|refine aq ?_|refine ptr ?_|apply T_)<;>conv=>whnf)
 all_goals
  refine z4 (aZ x).1 _ (λh9 hh=>?_);conv=>whnf
  exact hh.trans Ah e4
theorem Gs {h0 h:Heap} {bx:Nat} {us:List Value} {u:aO} {x:Sx} {B:List Nat} (hX:XS h0 h bx us u x B) (hs:mg u x) (ok:cI u.J) (k:Int) (hk:k=0\/k=1) :
  bI prog 171 [.pointer (some ⟨bx,0,none⟩),.int .i64 k,.bool false] h λ_ h'=>XR h0 h bx us u B (vB u x k false) h':=by
 have LH:vB u x k false=if (bB u (aD (aB x).2).2 (aD (aB x).2).1 (-1-k)).bad then bB u (aD (aB x).2).2 (aD (aB x).2).1 (-1-k)else if ¬(0<=(aB x).1/\(aB x).1 < (aF (bB u (aD (aB x).2).2 (aD (aB x).2).1 (-1-k)).objs (aD (aB x).2).1).aW.length)then cQ (bB u (aD (aB x).2).2 (aD (aB x).2).1 (-1-k)) 3 else dM (bB u (aD (aB x).2).2 (aD (aB x).2).1 (-1-k)) ((aF (bB u (aD (aB x).2).2 (aD (aB x).2).1 (-1-k)).objs (aD (aB x).2).1).aW.getD (aB x).1.toNat cU):=rfl
 rw[LH];have fR:=hX;have kL:=hs;have gh:=Ev.refl h (bx::B);have e1:rd h bx 3=rd h bx 3:=rfl;refine bZ au func171 RX Qn rfl ?_;conv=>whnf
 refine aC (oy fR kL) (λv h2 hh=>?_);have hv:=hh.1;subst hv;refine hh.2.elim λB2 iD=>?_;have pJ:=iD.1;have iE:=gh.trans iD.2.1;have e2:=iD.2.2.trans e1;have Ak:=kL.word;conv=>whnf
 refine aC (xI pJ Ak.1) (λv h3 hh=>?_);have hv:=hh.1;subst hv;refine hh.2.elim λB3 kB=>?_;have lR:=kB.1;have sY:=iE.trans kB.2.1;have e3:=kB.2.2.trans e2;have tg:=mg.ref Ak.1;conv=>whnf
 refine ah ?_;conv=>whnf
 refine aC (vD lR tg.1 ok _ (-1-k) (by rw[(j9 _).2.1];exact tg.2) (by omega)) (λv h4 hh=>?_);refine hh.2.1.elim λbn hv=>hv.elim λon hv=>?_;subst hv;refine hh.1.elim λB4 yg=>?_;have mD:=yg.1;have oW:=hh.2.2;have Ah:=sY.trans yg.2.1;have e4:=yg.2.2.trans e3;by_cases dO:(bB u (aD (aB x).2).2 (aD (aB x).2).1 (-1-k)).bad
 ·rw[if_pos dO];have r9:=mD.me.1;have iM:=mD.me.2.1;conv=>whnf
  refine ld r9 ?_;conv=>whnf
  apply eK<;>intro g;all_goals conv=>whnf
  ·exact⟨B4,mD,Ah,e4⟩
  ·refine ld iM ?_;conv=>whnf
   refine gI (dO.resolve_left (by rw[g];simp)) ?_;conv=>whnf
   exact⟨B4,mD,Ah,e4⟩
 rw[if_neg dO];have hg:=oW dO;have qP:=hg.1;have dW:=hg.2.1;have tR:=lC tg.1 dO;refine hg.2.2.elim λbo hg=>hg.elim λco hg=>?_;have nH:=hg.1;have hp:=hg.2;simp only[Value.pointer.injEq,v_,Addr.mk.injEq,and_true]at hp;have xK:=hp.1;have CM:=hp.2;subst xK;subst CM;rw[dW]at dO mD ⊢;have eB:(aD (aB x).2).2.st=false:=by
  cases hh:(aD (aB x).2).2.st with
  | false=>rfl
  | true=>exact absurd (.inl hh) dO
 have xW:(aD (aB x).2).2.ft=0:=by
  have h1:=tg.1.ft;have h2:¬0 < (aD (aB x).2).2.ft:=λhx=>dO (.inr hx);omega
 have r9:=mD.me.1;have iM:=mD.me.2.1;rw[eB]at r9;rw[xW]at iM;conv=>whnf
 repeat' ((first|refine ld r9 ?_|refine ld iM ?_|refine aq ?_|refine ah ?_|refine ptr ?_)<;>conv=>whnf)
 have hle:(aD (aB x).2).1<=(aD (aB x).2).2.objs.length:=by rw[(j9 _).2.1];exact tg.2.2
 refine(mD.j6 qP hle).elim λbo2 hq=>hq.elim λUm hq=>hq.elim λvv hq=>hq.elim λBi hq=>?_;have qp:=hq.1;rw[nH]at qp;simp only[v_,Z_,Addr.mk.injEq,and_true,true_and]at qp;have fO:=qp.1;subst fO;have q2:=hq.2.2.1;have ov:=hq.2.2.2.1;have fe:=hq.2.2.2.2;have hO:=tg.1.Aj _ (iY qP hle);refine ov.form.elim λpv hf=>hf.elim λcv hf=>?_;have hv:=hf.1;subst hv;have NR:=eL bR (aF (aD (aB x).2).2.objs (aD (aB x).2).1).aW;have hv8:(aF (aD (aB x).2).2.objs (aD (aB x).2).1).aW.length<=8:=by
  rcases hO.2 with ⟨_,h2⟩|⟨_,h3,h4⟩
  ·omega
  ·rw[h4];exact eH ok h3
 repeat' ((first|refine ld q2 ?_|refine aq ?_|refine ah ?_|refine ptr ?_)<;>conv=>whnf)
 refine aj (dP _ _ _ _) ?_;conv=>whnf
 by_cases Zn:0<=(aB x).1/\(aB x).1 < (aF (aD (aB x).2).2.objs (aD (aB x).2).1).aW.length
 rotate_left
 ·rw[if_pos Zn];apply aT<;>intro g;all_goals conv=>whnf
  ·refine aC (kV mD 3) (λv h9 hh=>?_);conv=>whnf
   exact hh.trans Ah e4
  ·exfalso;omega
 rw[if_neg (by simpa using Zn)];apply aT<;>intro g;all_goals conv=>whnf
 ·exfalso;omega
 have SK:((aB x).1).toNat < (aF (aD (aB x).2).2.objs (aD (aB x).2).1).aW.length:=by omega
 refine(mD.CL qP hle SK).elim λbo3 hz=>hz.elim λZo hz=>hz.elim λbv hz=>hz.elim λcv3 hz=>?_;have z1:=hz.1;have z2:=hz.2.1;have z3:=hz.2.2.1;have z4:=hz.2.2.2;rw[nH]at z1;simp only[v_,Z_,Addr.mk.injEq,and_true,true_and]at z1;have zb:=z1.1;subst zb;rw[z2]at q2;simp only[v_,Z_,true_and]at q2;have zp:=q2.1;have zc:=q2.2;subst zp;subst zc;repeat' ((first|refine ld z2 ?_|refine dJ z3 ?_|refine aq ?_|refine ah ?_|refine ptr ?_)<;>conv=>whnf)
 refine aC (nj mD tg.1.CK tg.1.yf _) (λv h9 hh=>?_);conv=>whnf
 exact hh.trans Ah e4
theorem Er {h0 h:Heap} {bx:Nat} {us:List Value} {u:aO} {x:Sx} {B:List Nat} (hX:XS h0 h bx us u x B) (hs:mg u x) (ok:cI u.J) (k i:Int) (hk:0<=k/\k < u.J.length) (hi:0<=i/\i < (dw u.J k).length) :
  bI prog 172 [.pointer (some ⟨bx,0,none⟩),.int .i64 k,.int .i64 i,.bool true] h λ_ h'=>XR h0 h bx us u B (qo u x k i true) h':=by
 have LH:qo u x k i true=if (bB u (aD (aZ x).2).2 (aD (aZ x).2).1 k).bad then bB u (aD (aZ x).2).2 (aD (aZ x).2).1 k else I5 (bB u (aD (aZ x).2).2 (aD (aZ x).2).1 k) (aD (aZ x).2).1 i (aZ x).1:=rfl
 rw[LH];refine bZ au func172 RY Qo rfl ?_;conv=>whnf
 refine aC (zg hX hs.CK hs.yf) (λv h1 hh=>?_);have hv:=hh.1;subst hv;refine hh.2.elim λB1 gS=>?_;have fR:=gS.1;have gh:=gS.2.1;have e1:=gS.2.2;have kL:=hs.pop.1;have Uk:=hs.pop.2;have SJ:(aZ x).2.objs=x.objs:=(mC x).2.1;rw[<-SJ]at Uk;conv=>whnf
 refine aC (xI fR kL) (λv h3 hh=>?_);have hv:=hh.1;subst hv;refine hh.2.elim λB3 kB=>?_;have lR:=kB.1;have sY:=gh.trans kB.2.1;have e3:=kB.2.2.trans e1;have tg:=mg.ref kL;conv=>whnf
 refine aC (vD lR tg.1 ok _ k (by rw[(j9 _).2.1];exact tg.2) (by omega)) (λv h4 hh=>?_);refine hh.2.1.elim λbn hv=>hv.elim λon hv=>?_;subst hv;refine hh.1.elim λB4 yg=>?_;have mD:=yg.1;have oW:=hh.2.2;have Ah:=sY.trans yg.2.1;have e4:=yg.2.2.trans e3;by_cases dO:(bB u (aD (aZ x).2).2 (aD (aZ x).2).1 k).bad
 ·rw[if_pos dO];have r9:=mD.me.1;have iM:=mD.me.2.1;conv=>whnf
  refine ld r9 ?_;conv=>whnf
  apply eK<;>intro g;all_goals conv=>whnf
  ·exact⟨B4,mD,Ah,e4⟩
  ·refine ld iM ?_;conv=>whnf
   refine gI (dO.resolve_left (by rw[g];simp)) ?_;conv=>whnf
   exact⟨B4,mD,Ah,e4⟩
 rw[if_neg dO];have hg:=oW dO;have qP:=hg.1;have dW:=hg.2.1;have tR:=lC tg.1 dO;refine hg.2.2.elim λbo hg=>hg.elim λco hg=>?_;have nH:=hg.1;have hp:=hg.2;simp only[Value.pointer.injEq,v_,Addr.mk.injEq,and_true]at hp;have xK:=hp.1;have CM:=hp.2;subst xK;subst CM;rw[dW]at dO mD ⊢;have eB:(aD (aZ x).2).2.st=false:=by
  cases hh:(aD (aZ x).2).2.st with
  | false=>rfl
  | true=>exact absurd (.inl hh) dO
 have xW:(aD (aZ x).2).2.ft=0:=by
  have h1:=tg.1.ft;have h2:¬0 < (aD (aZ x).2).2.ft:=λhx=>dO (.inr hx);omega
 have r9:=mD.me.1;have iM:=mD.me.2.1;rw[eB]at r9;rw[xW]at iM;conv=>whnf
 repeat' ((first|refine ld r9 ?_|refine ld iM ?_|refine aq ?_|refine ah ?_|refine ptr ?_)<;>conv=>whnf)
 have hle:(aD (aZ x).2).1<=(aD (aZ x).2).2.objs.length:=by rw[(j9 _).2.1];exact tg.2.2
 refine(mD.j6 qP hle).elim λbo2 hq=>hq.elim λUm hq=>hq.elim λvv hq=>hq.elim λBi hq=>?_;have qp:=hq.1;rw[nH]at qp;simp only[v_,Z_,Addr.mk.injEq,and_true,true_and]at qp;have fO:=qp.1;subst fO;have q2:=hq.2.2.1;have ov:=hq.2.2.2.1;have fe:=hq.2.2.2.2;have hO:=tg.1.Aj _ (iY qP hle);refine ov.form.elim λpv hf=>hf.elim λcv hf=>?_;have hv:=hf.1;subst hv;have NR:=eL bR (aF (aD (aZ x).2).2.objs (aD (aZ x).2).1).aW;have hv8:(aF (aD (aZ x).2).2.objs (aD (aZ x).2).1).aW.length<=8:=by
  rcases hO.2 with ⟨_,h2⟩|⟨_,h3,h4⟩
  ·omega
  ·rw[h4];exact eH ok h3
 have lI:0<=(aF (aD (aZ x).2).2.objs (aD (aZ x).2).1).cls/\up u.J (aF (aD (aZ x).2).2.objs (aD (aZ x).2).1).cls k=true:=by
  unfold fU at tR;simp at tR;have:=tR.2 hk.1;exact this
 have Cz:(dw u.J k).length<=(aF (aD (aZ x).2).2.objs (aD (aZ x).2).1).aW.length:=by
  rcases hO.2 with ⟨h2,_⟩|⟨h2,h3,h4⟩
  ·omega
  ·rw[h4];exact vk ok ((aF (aD (aZ x).2).2.objs (aD (aZ x).2).1).cls.toNat+1) (by omega) h3 lI.2
 have SK:(i).toNat < (aF (aD (aZ x).2).2.objs (aD (aZ x).2).1).aW.length:=by omega
 refine(mD.CL qP hle SK).elim λbo3 hz=>hz.elim λZo hz=>hz.elim λbv hz=>hz.elim λcv3 hz=>?_;have z1:=hz.1;have z2:=hz.2.1;have z3:=hz.2.2.1;have z4:=hz.2.2.2;rw[nH]at z1;simp only[v_,Z_,Addr.mk.injEq,and_true,true_and]at z1;have zb:=z1.1;subst zb;rw[z2]at q2;simp only[v_,Z_,true_and]at q2;have zp:=q2.1;have zc:=q2.2;subst zp;subst zc;repeat' ((first|exact trivial|refine ld z2 ?_|refine aq ?_|refine ptr ?_|apply T_)<;>conv=>whnf)
 all_goals
  refine z4 (aZ x).1 _ (λh9 hh=>?_);conv=>whnf
  exact hh.trans Ah e4
theorem Es {h0 h:Heap} {bx:Nat} {us:List Value} {u:aO} {x:Sx} {B:List Nat} (hX:XS h0 h bx us u x B) (hs:mg u x) (ok:cI u.J) (k i:Int) (hk:0<=k/\k < u.J.length) (hi:0<=i/\i < (dw u.J k).length) :
  bI prog 172 [.pointer (some ⟨bx,0,none⟩),.int .i64 k,.int .i64 i,.bool false] h λ_ h'=>XR h0 h bx us u B (qo u x k i false) h':=by
 have LH:qo u x k i false=if (bB u (aD x).2 (aD x).1 k).bad then bB u (aD x).2 (aD x).1 k else dM (bB u (aD x).2 (aD x).1 k) ((aF (bB u (aD x).2 (aD x).1 k).objs (aD x).1).aW.getD i.toNat cU):=rfl
 rw[LH];have fR:=hX;have kL:=hs;have gh:=Ev.refl h (bx::B);have e1:rd h bx 3=rd h bx 3:=rfl;refine bZ au func172 RY Qo rfl ?_;conv=>whnf
 refine aC (xI fR kL) (λv h3 hh=>?_);have hv:=hh.1;subst hv;refine hh.2.elim λB3 kB=>?_;have lR:=kB.1;have sY:=gh.trans kB.2.1;have e3:=kB.2.2.trans e1;have tg:=mg.ref kL;conv=>whnf
 refine aC (vD lR tg.1 ok _ k (by rw[(j9 _).2.1];exact tg.2) (by omega)) (λv h4 hh=>?_);refine hh.2.1.elim λbn hv=>hv.elim λon hv=>?_;subst hv;refine hh.1.elim λB4 yg=>?_;have mD:=yg.1;have oW:=hh.2.2;have Ah:=sY.trans yg.2.1;have e4:=yg.2.2.trans e3;by_cases dO:(bB u (aD x).2 (aD x).1 k).bad
 ·rw[if_pos dO];have r9:=mD.me.1;have iM:=mD.me.2.1;conv=>whnf
  refine ld r9 ?_;conv=>whnf
  apply eK<;>intro g;all_goals conv=>whnf
  ·exact⟨B4,mD,Ah,e4⟩
  ·refine ld iM ?_;conv=>whnf
   refine gI (dO.resolve_left (by rw[g];simp)) ?_;conv=>whnf
   exact⟨B4,mD,Ah,e4⟩
 rw[if_neg dO];have hg:=oW dO;have qP:=hg.1;have dW:=hg.2.1;have tR:=lC tg.1 dO;refine hg.2.2.elim λbo hg=>hg.elim λco hg=>?_;have nH:=hg.1;have hp:=hg.2;simp only[Value.pointer.injEq,v_,Addr.mk.injEq,and_true]at hp;have xK:=hp.1;have CM:=hp.2;subst xK;subst CM;rw[dW]at dO mD ⊢;have eB:(aD x).2.st=false:=by
  cases hh:(aD x).2.st with
  | false=>rfl
  | true=>exact absurd (.inl hh) dO
 have xW:(aD x).2.ft=0:=by
  have h1:=tg.1.ft;have h2:¬0 < (aD x).2.ft:=λhx=>dO (.inr hx);omega
 have r9:=mD.me.1;have iM:=mD.me.2.1;rw[eB]at r9;rw[xW]at iM;conv=>whnf
 repeat' ((first|refine ld r9 ?_|refine ld iM ?_|refine aq ?_|refine ah ?_|refine ptr ?_)<;>conv=>whnf)
 have hle:(aD x).1<=(aD x).2.objs.length:=by rw[(j9 _).2.1];exact tg.2.2
 refine(mD.j6 qP hle).elim λbo2 hq=>hq.elim λUm hq=>hq.elim λvv hq=>hq.elim λBi hq=>?_;have qp:=hq.1;rw[nH]at qp;simp only[v_,Z_,Addr.mk.injEq,and_true,true_and]at qp;have fO:=qp.1;subst fO;have q2:=hq.2.2.1;have ov:=hq.2.2.2.1;have fe:=hq.2.2.2.2;have hO:=tg.1.Aj _ (iY qP hle);refine ov.form.elim λpv hf=>hf.elim λcv hf=>?_;have hv:=hf.1;subst hv;have NR:=eL bR (aF (aD x).2.objs (aD x).1).aW;have hv8:(aF (aD x).2.objs (aD x).1).aW.length<=8:=by
  rcases hO.2 with ⟨_,h2⟩|⟨_,h3,h4⟩
  ·omega
  ·rw[h4];exact eH ok h3
 have lI:0<=(aF (aD x).2.objs (aD x).1).cls/\up u.J (aF (aD x).2.objs (aD x).1).cls k=true:=by
  unfold fU at tR;simp at tR;have:=tR.2 hk.1;exact this
 have Cz:(dw u.J k).length<=(aF (aD x).2.objs (aD x).1).aW.length:=by
  rcases hO.2 with ⟨h2,_⟩|⟨h2,h3,h4⟩
  ·omega
  ·rw[h4];exact vk ok ((aF (aD x).2.objs (aD x).1).cls.toNat+1) (by omega) h3 lI.2
 have SK:(i).toNat < (aF (aD x).2.objs (aD x).1).aW.length:=by omega
 refine(mD.CL qP hle SK).elim λbo3 hz=>hz.elim λZo hz=>hz.elim λbv hz=>hz.elim λcv3 hz=>?_;have z1:=hz.1;have z2:=hz.2.1;have z3:=hz.2.2.1;have z4:=hz.2.2.2;rw[nH]at z1;simp only[v_,Z_,Addr.mk.injEq,and_true,true_and]at z1;have zb:=z1.1;subst zb;rw[z2]at q2;simp only[v_,Z_,true_and]at q2;have zp:=q2.1;have zc:=q2.2;subst zp;subst zc;repeat' ((first|refine ld z2 ?_|refine dJ z3 ?_|refine aq ?_|refine ah ?_|refine ptr ?_)<;>conv=>whnf)
 refine aC (nj mD tg.1.CK tg.1.yf _) (λv h9 hh=>?_);conv=>whnf
 exact hh.trans Ah e4
theorem XS.loc {h0 h:Heap} {bx:Nat} {us:List Value} {u:aO} {y:Sx} {B:List Nat} {bf:Nat} (hX:XS h0 h bx us u y B) (ht:Tp h bx y.fs.length bf) {i:Nat} (hi:i < y.f.locals.length) :
  ∃ bl cl,rd h bf (y.fs.length*4+2)=some (.slice (some ⟨bl,0,none⟩) (List.map bR y.f.locals).length cl)/\fj h bl (0+i*2) 2=some (bR (y.f.locals.getD i cU)) /\
   ∀(v:Vl) (K:Heap->Prop),(∀ h',XR h0 h bx us u B {y with f:={y.f with locals:=y.f.locals.set i v} } h'->K h')->St h bl (0+i*2) [.bool v.ref,.int .i64 v.n] K:=by
 obtain⟨t,q,r,v1,v2,B1,B2,kz,hq,o1,o2,nd,gz,cH,AR,fe⟩:=hX.lens ht;obtain⟨pv,cv,rfl,_⟩:=o1.form;obtain⟨b0,e0,r0,_,_,_⟩:=o1.two hi;obtain⟨bl,pre,xx,post,tt,Gf,_,Sb,fV,Ae,rfl,Cy⟩:=cr.put o1 hi;rw[Gf]at e0;simp only[v_,Addr.mk.injEq,and_true]at e0;subst e0;subst Gf;refine⟨bl,cv,bE kz (i:=2) (by omega) rfl,by rw[sI hi];exact r0,λv K hk=>?_⟩;have hw:eS (pre++xx++post) (0+i*2) [.bool v.ref,.int .i64 v.n]=pre++bR v++post:=m4 (by omega) (by rw[Ae];rfl);refine Ag Sb (pre++bR v++post) (by simp[Ae,bR,fV]<;>omega) hw (λh' e1 g1=>?_);have SL:∀ b,b≠bl->h' b=h b:=λb hb=>by rw[e1];simp only[Heap.set,hb,if_false]
 have td:=cH bl (by simp);have fO:∀ b∈B2,b≠bl:=by
  rintro b hb rfl;have:=nd b;have:=W_.2 hb;simp only[Y_,X_,List.count_nil,beq_self_eq_true,if_true]at *;omega
 refine hk h' (fe h' {y.f with locals:=y.f.locals.set i v} _ v2 [bl] B2 ?_ ?_ (Cy _ v g1) ?_ (λb hb=>.inl hb) nd)
 ·rw[SL bf (λhx=>td.1 hx.symm)];exact kz
 ·intro b hb _;exact SL b (λhx=>hb (by simp[hx]))
 ·exact o2.aJ λb hb o ho=>by rw[SL b (fO b hb)];exact ho
def fS (x:Sx) (i:ez):Sx :=
 if i.kind=1 then dM x ⟨false,i.a⟩
 else if i.kind=2 then dM x ⟨true,0⟩
 else if i.kind=3 then dM x (x.f.locals.getD i.a.toNat cU)
 else if i.kind=4 then { (aZ x).2 with f:={ (aZ x).2.f with locals:=(aZ x).2.f.locals.set i.a.toNat (aZ x).1} }
 else if i.kind=5 then (aZ x).2
 else if i.kind=6 then dM (dM (aZ x).2 (aZ x).1) (aZ x).1
 else if i.kind=7 then LB x i.a
 else if i.kind=24 then (if (aB x).2.st=false then { (aB x).2 with said:=(aB x).2.said++[(aB x).1]}else (aB x).2)
 else x
def iO (u:aO) (x:Sx) (i:ez):Sx :=
 if i.kind=12 then Gp u x i.a
 else if i.kind=13 then ox x i.a
 else if i.kind=14 then tJ x
 else if i.kind=15 then vB u x i.a false
 else if i.kind=16 then vB u x i.a true
 else if i.kind=17 then qo u x i.a i.b false
 else if i.kind=18 then qo u x i.a i.b true
 else if i.kind=19 then tK u x i.a
 else x
def fq (x:Sx) (i:ez):Bool × Sx :=
 if i.kind=8 then (decide ((aB (aB x).2).1 < (aB x).1),(aB (aB x).2).2)
 else if i.kind=9 then (decide ((aB (aB x).2).1=(aB x).1),(aB (aB x).2).2)
 else if i.kind=10 then (decide ((aD x).1=0),(aD x).2)
 else (decide (i.kind=11),x)
theorem Bh (x:Sx):(aZ x).2.said=x.said:=by unfold aZ;split<;>rfl
theorem Gt (x:Sx):(aB x).2.said=x.said:=by unfold aB;split<;>exact Bh x
structure SM (u:aO) (x:Sx) (i:ez):Prop where
 loc:i.kind=3\/i.kind=4->0<=i.a/\i.a < x.f.locals.length
 arr:i.kind=13\/i.kind=15\/i.kind=16->i.a=0\/i.a=1
 wO:vw u i
theorem O0 {h0 h:Heap} {bx:Nat} {us:List Value} {u:aO} {x:Sx} {B:List Nat} (hX:XS h0 h bx us u x B) (hs:mg u x) (kind a b:Int) (hi:SM u x ⟨kind,a,b⟩) (QX:x.said.length<=1000) :
  bI prog 133 [.pointer (some ⟨bx,0,none⟩),.agg #[.int .i64 kind,.int .i64 a,.int .i64 b]] h λ_ h'=>XR h0 h bx us u B (fS x ⟨kind,a,b⟩) h':=by
 obtain⟨bf,ht⟩:=hX.tp;have jL:=vz hX ht hs.CK;obtain⟨mX,_,_⟩:=hi;simp only at mX;have push:∀ v:Vl,bI prog 164 [.pointer (some ⟨bx,0,none⟩),QW v] h λ_ h'=>XR h0 h bx us u B (dM x v) h':=λv=>nj hX hs.CK hs.yf v;refine bZ au func133 Wd We rfl ?_;conv=>whnf
 refine aj jL ?_;conv=>whnf
 by_cases k1:kind=1
 ·subst k1;conv=>whnf
  refine aj (oV _ _) ?_;conv=>whnf
  refine aC (push _) (λv h1 hh=>?_);conv=>whnf
  exact hh
 refine cM k1 ?_;conv=>whnf
 by_cases k2:kind=2
 ·subst k2;conv=>whnf
  refine aj (nq _ _) ?_;conv=>whnf
  refine aC (push _) (λv h1 hh=>?_);conv=>whnf
  exact hh
 refine cM k2 ?_;conv=>whnf
 by_cases k3:kind=3
 ·subst k3;have ha:=mX (.inl rfl);refine(hX.loc ht (i:=a.toNat) (by omega)).elim λbl hz=>hz.elim λcl hz=>?_;have z1:=hz.1;have z2:=hz.2.1;have tX:=eL bR x.f.locals;conv=>whnf
  repeat' ((first|exact trivial|refine ld z1 ?_|refine dJ z2 ?_|refine aq ?_|refine ptr ?_|apply T_)<;>conv=>whnf)
  all_goals
   refine aC (push (x.f.locals.getD a.toNat cU)) (λv h1 hh=>?_);conv=>whnf
   exact hh
 refine cM k3 ?_;conv=>whnf
 by_cases k4:kind=4
 ·subst k4;have ha:=mX (.inr rfl);have LD:=LC hX hs.CK hs.yf;refine(hX.loc ht (i:=a.toNat) (by omega)).elim λbl hz=>hz.elim λcl hz=>?_;have z1:=hz.1;have tX:=eL bR x.f.locals;conv=>whnf
  repeat' ((first|exact trivial|refine ld z1 ?_|refine aq ?_|refine ptr ?_|apply T_)<;>conv=>whnf)
  all_goals
   refine aC LD (λv h1 hh=>?_);have hv:=hh.1;subst hv;refine hh.2.1.elim λB1 gS=>?_;have fR:=gS.1;have Zp:=(hh.2.2 bf ht).trans z1;have ht1:Tp h1 bx (aZ x).2.fs.length bf:=by
    obtain⟨c0,k0⟩:=ht;exact⟨c0,by rw[gS.2.2,(mC x).1];exact k0⟩
   refine(fR.loc ht1 (i:=a.toNat) (by rw[(mC x).2.2.2];omega)).elim λbl2 hz=>hz.elim λcl2 hz=>?_;have y1:=hz.1;have y3:=hz.2.2;rw[(mC x).1,Zp,(mC x).2.2.2]at y1;simp only[v_,Z_,Addr.mk.injEq,and_true,true_and]at y1;have yb:=y1.1;subst yb;conv=>whnf
   repeat' ((first|refine ld Zp ?_|refine aq ?_|refine ptr ?_)<;>conv=>whnf)
   refine y3 (aZ x).1 _ (λh9 OK=>?_);conv=>whnf
   exact OK.trans gS.2.1 gS.2.2
 refine cM k4 ?_;conv=>whnf
 by_cases k5:kind=5
 ·subst k5;conv=>whnf
  refine aC (zg hX hs.CK hs.yf) (λv h1 hh=>?_);conv=>whnf
  exact hh.2
 refine cM k5 ?_;conv=>whnf
 by_cases k6:kind=6
 ·subst k6;conv=>whnf
  refine aC (zg hX hs.CK hs.yf) (λv h1 hh=>?_);have hv:=hh.1;subst hv;refine hh.2.elim λB1 gS=>?_;have kL:=hs.pop.1;have Gu:=hs.pop.2;conv=>whnf
  refine aC (nj gS.1 kL.CK kL.yf (aZ x).1) (λv h2 hh=>?_);refine hh.elim λB2 iD=>?_;have Ak:=kL.push (v:=(aZ x).1) (by rw[(mC x).2.1];exact Gu);conv=>whnf
  refine aC (nj iD.1 Ak.CK Ak.yf (aZ x).1) (λv h3 hh=>?_);conv=>whnf
  exact(hh.trans iD.2.1 iD.2.2).trans gS.2.1 gS.2.2
 refine cM k6 ?_;conv=>whnf
 by_cases k7:kind=7
 ·subst k7;conv=>whnf
  refine aC (acE hX hs a) (λv h1 hh=>?_);conv=>whnf
  exact hh
 refine cM k7 ?_;conv=>whnf
 by_cases A3:kind=24
 ·subst A3;conv=>whnf
  refine aC (oy hX hs) (λv h1 hh=>?_);have hv:=hh.1;subst hv;refine hh.2.elim λB1 gS=>?_;have fR:=gS.1;have r9:=fR.me.1;have hp:fS x ⟨24,a,b⟩=(if (aB x).2.st=false then { (aB x).2 with said:=(aB x).2.said++[(aB x).1]}else (aB x).2):=rfl;rw[hp];have I8:(aB x).2.said.length<=1000:=by
   rw[Gt];exact QX
  generalize (aB x).2=y at gS fR r9 I8 ⊢;conv=>whnf
  refine ld r9 ?_;conv=>whnf
  apply cJ<;>intro g;all_goals conv=>whnf
  ·rw[if_pos g];refine(fR.ma.QI (show y.CH.said.length<=1000 from I8)).elim λt hg=>hg.elim λps hg=>hg.elim λcs hg=>hg.elim λvo hg=>hg.elim λvf hg=>hg.elim λiR grow=>?_;have r4:rd h1 bx 4=some (.slice ps y.said.length cs):=bE iR (i:=2) (by rw[fR.HR]) rfl;have r3:rd h1 bx 3=some vf:=bE iR (i:=1) (by rw[fR.HR]) rfl;repeat' ((first|exact trivial|refine ld r4 ?_|apply T_)<;>conv=>whnf)
   all_goals
    refine grow (aB x).1 [] _ _ ⟨rfl,rfl⟩ (λ_=>by simp) (by simp) rfl rfl rfl rfl (by simp) ?_;rintro p' c' h2 e1 e2 e3 ⟨B2,ND,sY⟩;have s7:=e1.trans iR;conv=>whnf
    refine lP s7 (i:=2) (ay vo vf (.slice p' (y.CH.said.length+1) c') y.CH) (by rw[fR.HR]) (by simp[ay]) rfl (λh3 kB Le=>?_);rw[<-kB]at ND sY;conv=>whnf
    have q3:rd h3 bx 3=some vf:=bE Le (i:=1) (by rw[fR.HR]) rfl;exact⟨B2,⟨ND,hX.un⟩,gS.2.1.trans (by simpa using sY),(q3.trans r3.symm).trans gS.2.2⟩
  ·rw[if_neg (by rw[g];simp)];exact⟨B1,fR,gS.2⟩
 refine cM A3 ?_;conv=>whnf
 have hp:fS x ⟨kind,a,b⟩=x:=by simp[fS,k1,k2,k3,k4,k5,k6,k7,A3]
 rw[hp];exact⟨B,hX,Ev.refl _ _,rfl⟩
theorem SN {h0 h:Heap} {bx:Nat} {us:List Value} {u:aO} {x:Sx} {B:List Nat} (hX:XS h0 h bx us u x B) (hs:mg u x) (ok:cI u.J) (kind a b:Int) (hi:SM u x ⟨kind,a,b⟩) :
  bI prog 134 [.pointer (some ⟨bx,0,none⟩),.agg #[.int .i64 kind,.int .i64 a,.int .i64 b]] h λ_ h'=>XR h0 h bx us u B (iO u x ⟨kind,a,b⟩) h':=by
 obtain⟨_,qX,dW⟩:=hi;simp only[vw]at qX dW;refine bZ au func134 RV Ql rfl ?_;conv=>whnf
 by_cases JX:kind=12
 ·subst JX;conv=>whnf
  refine aC (OY hX hs ok a (dW.1 (by simp))) (λv h1 hh=>?_);conv=>whnf
  exact hh
 refine cM JX ?_;conv=>whnf
 by_cases OP:kind=13
 ·subst OP;conv=>whnf
  refine aC (OZ hX hs a (qX (by simp))) (λv h1 hh=>?_);conv=>whnf
  exact hh
 refine cM OP ?_;conv=>whnf
 by_cases NI:kind=14
 ·subst NI;conv=>whnf
  refine aC (SH hX hs) (λv h1 hh=>?_);conv=>whnf
  exact hh
 refine cM NI ?_;conv=>whnf
 by_cases NJ:kind=15
 ·subst NJ;conv=>whnf
  refine aC (Gs hX hs ok a (qX (by simp))) (λv h1 hh=>?_);conv=>whnf
  exact hh
 refine cM NJ ?_;conv=>whnf
 by_cases NK:kind=16
 ·subst NK;conv=>whnf
  refine aC (Gr hX hs ok a (qX (by simp))) (λv h1 hh=>?_);conv=>whnf
  exact hh
 refine cM NK ?_;conv=>whnf
 by_cases NL:kind=17
 ·subst NL;conv=>whnf
  refine aC (Es hX hs ok a b (dW.1 (by simp)) (dW.2 (by simp))) (λv h1 hh=>?_);conv=>whnf
  exact hh
 refine cM NL ?_;conv=>whnf
 by_cases NM:kind=18
 ·subst NM;conv=>whnf
  refine aC (Er hX hs ok a b (dW.1 (by simp)) (dW.2 (by simp))) (λv h1 hh=>?_);conv=>whnf
  exact hh
 refine cM NM ?_;conv=>whnf
 by_cases OQ:kind=19
 ·subst OQ;conv=>whnf
  refine aC (SI hX hs ok a (dW.1 (by simp))) (λv h1 hh=>?_);conv=>whnf
  exact hh
 refine cM OQ ?_;conv=>whnf
 have hp:iO u x ⟨kind,a,b⟩=x:=by simp[iO,JX,OP,NI,NJ,NK,NL,NM,OQ]
 rw[hp];exact⟨B,hX,Ev.refl _ _,rfl⟩
theorem O1 {h0 h:Heap} {bx:Nat} {us:List Value} {u:aO} {x:Sx} {B:List Nat} (hX:XS h0 h bx us u x B) (hs:mg u x) (kind a b:Int) :
  bI prog 132 [.pointer (some ⟨bx,0,none⟩),.agg #[.int .i64 kind,.int .i64 a,.int .i64 b]] h λv h'=>v=.bool (fq x ⟨kind,a,b⟩).1/\XR h0 h bx us u B (fq x ⟨kind,a,b⟩).2 h':=by
 have kL:=hs.word.1;refine bZ au func132 Wb Wc rfl ?_;conv=>whnf
 by_cases k8:kind=8
 ·subst k8;conv=>whnf
  refine aC (oy hX hs) (λv h1 hh=>?_);have hv:=hh.1;subst hv;refine hh.2.elim λB1 gS=>?_;conv=>whnf
  refine aC (oy gS.1 kL) (λv h2 hh=>?_);have hv:=hh.1;subst hv;conv=>whnf
  exact⟨rfl,hh.2.trans gS.2.1 gS.2.2⟩
 refine cM k8 ?_;conv=>whnf
 by_cases k9:kind=9
 ·subst k9;conv=>whnf
  refine aC (oy hX hs) (λv h1 hh=>?_);have hv:=hh.1;subst hv;refine hh.2.elim λB1 gS=>?_;conv=>whnf
  refine aC (oy gS.1 kL) (λv h2 hh=>?_);have hv:=hh.1;subst hv;conv=>whnf
  exact⟨rfl,hh.2.trans gS.2.1 gS.2.2⟩
 refine cM k9 ?_;conv=>whnf
 by_cases A2:kind=10
 ·subst A2;conv=>whnf
  refine aC (xI hX hs) (λv h1 hh=>?_);have hv:=hh.1;subst hv;conv=>whnf
  exact⟨rfl,hh.2⟩
 refine cM A2 ?_;conv=>whnf
 have hp:fq x ⟨kind,a,b⟩=(decide (kind=11),x):=by simp[fq,k8,k9,A2]
 rw[hp];exact⟨rfl,B,hX,Ev.refl _ _,rfl⟩
def XE (h0 h:Heap) (bx:Nat) (us:List Value) (u:aO) (B:List Nat) (r:bM × Bool × Int) (h':Heap):Prop:=∃ B',XM h0 h' bx us u r.1 r.2.1 r.2.2 B'/\Ev h h' (bx::B) (bx::B')
def Sx.res (x:Sx):bM × Bool × Int:=(x.CH,x.st,x.ft)
theorem XR.SO {h0 h:Heap} {bx:Nat} {us:List Value} {u:aO} {B:List Nat} {y:Sx} {h':Heap} (hr:XR h0 h bx us u B y h'):XE h0 h bx us u B y.res h':=by
 obtain⟨B',a,b,_⟩:=hr;exact⟨B',a,b⟩
theorem XE.trans {h0 h h1 h2:Heap} {bx:Nat} {us:List Value} {u:aO} {B B1:List Nat} {r:bM × Bool × Int} (ev:Ev h h1 (bx::B) (bx::B1)) (hr:XE h0 h1 bx us u B1 r h2):XE h0 h bx us u B r h2:=by
 obtain⟨B',a,b⟩:=hr;exact⟨B',a,ev.trans b⟩
theorem XS.kr {h0 h:Heap} {bx:Nat} {us:List Value} {u:aO} {x:Sx} {B:List Nat} {bf:Nat} (hX:XS h0 h bx us u x B) (ht:Tp h bx x.fs.length bf) :
  rd h bf (x.fs.length*4+1)=some (.int .i64 x.f.pc)/\∀(n:Int) (K:Heap->Prop),(∀ h',XR h0 h bx us u B {x with f:={x.f with pc:=n} } h'->K h')->St h bf (x.fs.length*4+1) [.int .i64 n] K:=by
 obtain⟨t,q,r,v1,p2,c2,B2,kz,hq,o2,gz,r3,fe⟩:=hX.cP ht;refine⟨bE kz (i:=1) (by omega) rfl,λn K hk=>?_⟩;have hR:=(fe h _ B2 x.f.stack n (λ_ _ _=>rfl) o2 (λb hb=>.inl hb)).2;refine lP kz (i:=1) [.int .i64 x.f.U,.int .i64 n,v1,.slice p2 (x.f.stack.map bR).length c2] (by omega) (by simp) rfl (λh9 OK _=>?_);rw[<-OK]at hR;exact hk h9 hR
def xL (x:Sx):bM × Bool × Int :=
 let p:=aZ x
 if p.2.st=true then p.2.res
 else match p.2.fs.getLast? with
  | none=>(⟨x.objs,[],x.said,x.steps,1,p.1⟩,p.2.st,p.2.ft)
  | some g =>
   let y:=dM {p.2 with fs:=p.2.fs.dropLast,f:=g} p.1
   ({y with f:={y.f with pc:=y.f.pc+1} }:Sx).res
theorem Et (x:Sx) (v:Vl):(dM x v).fs=x.fs/\(dM x v).f.pc=x.f.pc/\(dM x v).f.U=x.f.U:=by unfold dM;split<;>exact⟨rfl,rfl,rfl⟩
theorem SP {h0 h:Heap} {bx:Nat} {us:List Value} {u:aO} {x:Sx} {B:List Nat} (hX:XS h0 h bx us u x B) (hs:mg u x) (qO:∀ g∈x.fs,xH u x.objs.length g) (hc:∀ m:cL,m∈u.methods->m.code.length<=1000) :
  bI prog 127 [.pointer (some ⟨bx,0,none⟩)] h λ_ h'=>XE h0 h bx us u B (xL x) h':=by
 have kL:=hs.pop.1;have hpx:=mC x;have SQ:=Bh x;have acF:(aZ x).2.steps=x.steps/\(aZ x).2.fin=x.fin/\(aZ x).2.out=x.out:=by unfold aZ;split<;>exact⟨rfl,rfl,rfl⟩
 have hbk:xL x=if (aZ x).2.st=true then (aZ x).2.res else match (aZ x).2.fs.getLast? with
  | none=>(⟨x.objs,[],x.said,x.steps,1,(aZ x).1⟩,(aZ x).2.st,(aZ x).2.ft)
  | some g=>({ (dM { (aZ x).2 with fs:=(aZ x).2.fs.dropLast,f:=g} (aZ x).1)with f:={ (dM { (aZ x).2 with fs:=(aZ x).2.fs.dropLast,f:=g} (aZ x).1).f with pc:=(dM { (aZ x).2 with fs:=(aZ x).2.fs.dropLast,f:=g} (aZ x).1).f.pc+1} }:Sx).res:=rfl
 rw[hbk];clear hbk;obtain⟨pu,cu,qu,du,rfl,_⟩:=hX.un.form;rw[<-hpx.1,<-hpx.2.1]at qO;rw[<-hpx.2.1,<-SQ,<-acF.1];refine bZ au func127 V3 V4 rfl ?_;conv=>whnf
 refine aC (zg hX hs.CK hs.yf) (λv h1 hh=>?_);have hv:=hh.1;subst hv;refine hh.2.elim λB1 gS=>?_;have fR:=gS.1;have gh:=gS.2.1;generalize (aZ x).2=y at qO kL fR ⊢;generalize (aZ x).1=w;have r9:=fR.me.1;conv=>whnf
 refine ld r9 ?_;conv=>whnf
 apply eK<;>intro g;all_goals conv=>whnf
 ·rw[if_pos g];exact⟨B1,fR,gh⟩
 rw[if_neg (by rw[g];simp)];refine(fR.ma.OJ (fs:=y.fs) (f:=y.f) rfl).elim λtb hz=>hz.elim λpf hz=>hz.elim λcf hz=>hz.elim λvo hz=>hz.elim λvs hz=>?_;have iR:=hz.1;have gF:=hz.2.1;refine hz.2.2.elim λB2 Up=>?_;have r3:rd h1 bx 3=some (.slice pf (y.fs.length+1) cf):=bE iR (i:=1) (by rw[fR.HR]) rfl;have Eh:=kL.nf;repeat' ((first|refine ld r3 ?_|refine aq ?_|refine ah ?_|refine ptr ?_)<;>conv=>whnf)
 have Zq:(((y.fs.length+1:Nat):Int)-1).toNat=y.fs.length:=by omega
 refine lP iR (i:=1) (ay vo (.slice pf (((y.fs.length+1:Nat):Int)-1).toNat cf) vs y.CH) (by rw[fR.HR]) (by simp[ay]) rfl (λh2 iD g2=>?_);rw[Zq]at iD g2;rw[<-iD]at Up;have Af:=Up.1;have iE:=gh.trans Up.2;conv=>whnf
 rcases List.eq_nil_or_concat y.fs with hn|⟨gs,gl,hn⟩
 ·have Ai:y.fs.length=0:=by rw[hn];rfl
  have DS:y.fs.getLast? = none:=by rw[hn];rfl
  rw[DS];refine cx ?_;conv=>whnf
  refine Af.ints.elim λt2 hi=>hi.elim λSu hi=>hi.elim λSv hi=>hi.elim λKS hi=>?_;have fO:=hi.1;have fe:=hi.2.2.2.2;refine Ag fO ([.slice pu u.J.length cu,.slice qu u.methods.length du]++ay Su Sv KS ⟨y.objs,y.fs,y.said,y.steps,1,y.out⟩++[.bool y.st,.int .i64 y.ft]) (by simp[ay]) rfl (λh3 e3 g3=>?_);conv=>whnf
  refine Ag g3 ([.slice pu u.J.length cu,.slice qu u.methods.length du]++ay Su Sv KS ⟨y.objs,y.fs,y.said,y.steps,1,w⟩++[.bool y.st,.int .i64 y.ft]) (by simp[ay]) rfl (λh4 e4 g4=>?_);conv=>whnf
  have hr:=fe ⟨y.objs,y.fs,y.said,y.steps,1,w⟩ rfl rfl rfl;have e5:h4=h2.set bx (.cells (([.slice pu u.J.length cu,.slice qu u.methods.length du]++ay Su Sv KS ⟨y.objs,y.fs,y.said,y.steps,1,w⟩++[.bool y.st,.int .i64 y.ft]:List Value)).toArray t2 (0,0)):=by rw[e4,e3,set_set]
  rw[<-e5,hn]at hr;exact⟨B2,⟨hr.1,hX.un⟩,iE.trans hr.2⟩
 ·rw[List.concat_eq_append]at hn;have ji:y.fs.length=gs.length+1:=by rw[hn];simp
  have DS:y.fs.getLast? = some gl:=by rw[hn];simp
  have Zr:y.fs.dropLast=gs:=by rw[hn];simp
  rw[DS];simp only[Zr];have hG:=qO gl (by rw[hn];simp);have Sp:=hc _ (iV hG.1);have AW:=hG.2.1;have hgs:=hG.2.2.2.1;rw[hn]at Af;have pJ:XS h0 h2 bx [.slice pu u.J.length cu,.slice qu u.methods.length du] u {y with fs:=gs,f:=gl} B2:=⟨Af,hX.un⟩
  refine bH ?_;conv=>whnf
  refine aC (nj pJ (by show gs.length<=1000;omega) (by show gl.stack.length<=1000;omega) w) (λv h3 hh=>?_);refine hh.elim λB3 kB=>?_;have lR:=kB.1;have sY:=iE.trans kB.2.1;have Bj:=Et {y with fs:=gs,f:=gl} w;generalize dM {y with fs:=gs,f:=gl} w=z at lR Bj ⊢;refine lR.tp.elim λbf ht=>?_;have pI:z.fs.length<=1000:=by rw[Bj.1];show gs.length<=1000;omega
  have hz1:=lR.kr ht;have hpz:=Bj.2.1;simp only at hpz;conv=>whnf
  refine aj (vz lR ht pI) ?_;conv=>whnf
  refine ld hz1.1 ?_;conv=>whnf
  refine ah ?_;conv=>whnf
  refine hz1.2 _ _ (λh4 yg=>?_);conv=>whnf
  exact XE.trans sY yg.SO
def nr (u:aO) (n:Int) (M:bM) (sk:Bool) (ft:Int):bM × Bool × Int :=
 if (aF M.objs n).cls < 0\/up u.J (aF M.objs n).cls 1=false then (M,true,ft)else (cK u n M,sk,ft)
theorem CN {h0 h:Heap} {bx:Nat} {us:List Value} {u:aO} {M:bM} {sk:Bool} {ft:Int} {B:List Nat} (hX:XM h0 h bx us u M sk ft B) (ok:cI u.J) (n:Int) (hn:0 < n/\n<=M.objs.length) (AF:M.objs.length<=1000) (hl:M.ag.length<=1000)
  (hc : -2<=(aF M.objs n).cls/\(aF M.objs n).cls < u.J.length) (qO:∀ g∈M.ag,0<=g.U/\g.U < u.methods.length) (Gv:∀ m∈u.methods,∀ c∈m.catches,(0<=c.hi/\c.hi<=1000)/\0<=c.cls) :
  bI prog 69 [.pointer (some ⟨bx,0,none⟩),.int .i64 n] h λ_ h'=>XE h0 h bx us u B (nr u n M sk ft) h':=by
 obtain⟨_,_,_,_,_,p,cc,q,d,rfl,r0,rm,_,hcs,fM⟩:=hX.me;obtain⟨bo,co,r1,r2⟩:=hX.ma.j6 hn.1 hn.2;have dO:(aF M.objs n).cls < 0\/up u.J (aF M.objs n).cls 1=false->nr u n M sk ft=(M,true,ft):=λhx=>if_pos hx;have eP:¬((aF M.objs n).cls < 0\/up u.J (aF M.objs n).cls 1=false)->nr u n M sk ft=(cK u n M,sk,ft):=λhx=>if_neg hx;have Qw:rd h bx 2=some (.slice (some ⟨bo,0,none⟩) M.objs.length co):=r1;have sX:0<=(aF M.objs n).cls->Pure prog 126 [.slice p u.J.length cc,.int .i64 (aF M.objs n).cls,.int .i64 1] h (.bool (up u.J (aF M.objs n).cls 1)):=λh0=>tW p u.J.length cc u.J _ 1 h hcs ok (by omega) hc.2 (by omega);refine bZ au func69 F69 abJ rfl ?_;conv=>whnf
 repeat' ((first|refine ld Qw ?_|refine ld r2 ?_|refine aq ?_|refine ah ?_|refine ptr ?_)<;>conv=>whnf)
 apply ax<;>intro g1;all_goals conv=>whnf
 ·refine hX.stuck (λh1 fR gh e1=>?_);conv=>whnf
  rw[dO (.inl g1)];exact⟨B,fR,gh⟩
 repeat' ((first|refine ld r0 ?_|refine aq ?_|refine ah ?_|refine ptr ?_)<;>conv=>whnf)
 refine aj (sX (by omega)) ?_;conv=>whnf
 apply cJ<;>intro g2;all_goals conv=>whnf
 ·refine hX.stuck (λh1 fR gh e1=>?_);conv=>whnf
  rw[dO (.inr g2)];exact⟨B,fR,gh⟩
 rw[eP (by rw[g2];simp;omega)];refine fh [0,1,4] [] (λs:List bQ × Heap × List Nat=>XM h0 s.2.1 bx [.slice p u.J.length cc,.slice q u.methods.length d] u {M with ag:=s.1} sk ft s.2.2/\Ev h s.2.1 (bx::B) (bx::s.2.2)/\cK u n {M with ag:=s.1}=cK u n M/\s.1.length<=1000/\∀ g∈s.1,0<=g.U/\g.U < u.methods.length) (λs=>s.1.length)
  (λs=>([.v (.pointer (some ⟨bx,0,none⟩)),.v (.int .i64 n),.v (.int .i64 (aF M.objs n).cls)],[],s.2.1))
  (M.ag,h,B) ⟨hX,Ev.refl _ _,rfl,hl,qO⟩ rfl ?_
 rintro⟨fs,h1,B1⟩ ⟨fR,gh,dW,tQ,ug⟩;simp only at fR gh dW tQ ug ⊢;conv=>whnf
 obtain⟨_,_,_,⟨pf,cf,r3⟩,_,p',cc',q',d',he,r0',rm',_,CB,KX⟩:=fR.me;simp only[List.cons.injEq,Z_,true_and,and_true]at he;obtain⟨⟨rfl,rfl⟩,rfl,rfl⟩:=he;replace r3:rd h1 bx 3=some (.slice pf fs.length cf):=r3
 refine ld r3 ?_;conv=>whnf
 apply ax<;>intro g0;all_goals conv=>whnf
 ·obtain⟨gs,g,rfl⟩:∃ gs gl,fs=gs++[gl]:=by
   rcases List.eq_nil_or_concat fs with rfl|⟨gs,gl,rfl⟩
   ·simp at g0
   ·exact⟨gs,gl,by simp⟩
  have hg:=ug g (by simp);have hlen:(gs++[g]).length=gs.length+1:=by simp
  have Zs:XS h0 h1 bx [.slice p u.J.length cc,.slice q u.methods.length d] u ⟨M.objs,gs,g,M.said,M.steps,M.fin,M.out,sk,ft⟩ B1:=fR;obtain⟨bf,ht⟩:=Zs.tp;have Dk:gs.length<=1000:=by omega
  have jL:=vz Zs ht Dk;simp only at jL;obtain⟨t,qq,r,v1,v2,Bl,Bs,kz,hq,o1,o2,nd,gz,cH,ne,fe⟩:=Zs.lens ht;simp only at kz hq o1 o2 fe;rw[y6]at dW;have s0:rd h1 bf (gs.length*4)=some (.int .i64 g.U):=bE kz (i:=0) (by omega) rfl;have s1:rd h1 bf (gs.length*4+1)=some (.int .i64 g.pc):=bE kz (i:=1) (by omega) rfl;have hi:g.U.toNat < u.methods.length:=by omega
  have e:=KX.get hi;obtain⟨bb,oo,mcs,wA,e1,e2⟩:=e;have oE:aV u g.U=u.methods[g.U.toNat]:=gU hi (by omega);have I9:=Gv _ (iV hg);obtain⟨p1,c1,p2,c2,p3,c3,p4,c4,e3,k1,k2,k3,k4,k5,k6,k7,k8,d1,d2,d3,d4⟩:=e2.form;subst e3;have s2:rd h1 bb (oo+g.U.toNat*8+7)=some (.slice p4 (aV u g.U).catches.length c4):=by rw[oE];exact aE e1 (i:=7) rfl
  have Sf:Row 4 DV h1 (.slice p4 (aV u g.U).catches.length c4) (aV u g.U).catches:=by rw[oE];exact k8
  have d4':(aV u g.U).catches.length<=140737488351232:=by rw[oE];exact d4
  refine aj jL ?_;conv=>whnf
  repeat' ((first|refine ld rm' ?_|refine ld s0 ?_|refine aG wA ?_|refine ld s2 ?_|refine aq ?_|refine ah ?_|refine ptr ?_)<;>conv=>whnf)
  refine fh [0,1,4,5,6,7] [] (λi:Nat=>i<=(aV u g.U).catches.length/\∀ j (hj:j < (aV u g.U).catches.length),j < i->¬(((aV u g.U).catches[j].lo<=g.pc/\g.pc < (aV u g.U).catches[j].hi)/\up u.J (aF M.objs n).cls (aV u g.U).catches[j].cls=true)) (λi=>(aV u g.U).catches.length-i)
   (λi=>([.v (.pointer (some ⟨bx,0,none⟩)),.v (.int .i64 n),.v (.int .i64 (aF M.objs n).cls),.v (.pointer (some ⟨bf,gs.length*4,none⟩)),.v (.slice p4 (aV u g.U).catches.length c4),.v (.int .i64 i)],[],h1)) 0 ⟨by omega,λ_ _ hx=>by omega⟩ rfl ?_
  rintro i ⟨hi4,QM⟩;conv=>whnf
  apply ax<;>intro g5;all_goals conv=>whnf
  ·have bV:i < (aV u g.U).catches.length:=by omega
   have f:=Sf.get bV;obtain⟨bc,oc,cvs,Lf,f1,f2,f3⟩:=f;subst f2;have yU:=I9 _ (x_ bV);have c0:=aE f1 (i:=0) rfl;have Qu:=aE f1 (i:=1) rfl;have Qv:=aE f1 (i:=2) rfl;have OC:=aE f1 (i:=3) rfl;have Ac:=tW p u.J.length cc u.J (aF M.objs n).cls (aV u g.U).catches[i].cls h1 CB ok (by omega) hc.2 yU.2;have go:¬(((aV u g.U).catches[i].lo<=g.pc/\g.pc < (aV u g.U).catches[i].hi)/\up u.J (aF M.objs n).cls (aV u g.U).catches[i].cls=true)->∀ j (hj:j < (aV u g.U).catches.length),j < i+1->¬(((aV u g.U).catches[j].lo<=g.pc/\g.pc < (aV u g.U).catches[j].hi)/\up u.J (aF M.objs n).cls (aV u g.U).catches[j].cls=true):=by
    intro hx j hj jj;rcases Nat.lt_succ_iff_lt_or_eq.1 jj with iu|rfl
    ·exact QM j hj iu
    ·exact hx
   repeat' ((first|refine ld s1 ?_|refine aG Lf ?_|refine ld c0 ?_|refine ld Qu ?_|refine aK (dP _ _ _ _) ?_|refine aq ?_|refine ah ?_|refine ptr ?_)<;>conv=>whnf)
   apply ax<;>intro g6;all_goals conv=>whnf
   ·repeat' ((first|refine ld r0' ?_|refine aG Lf ?_|refine ld OC ?_|refine aK Ac ?_|refine aq ?_|refine ah ?_|refine ptr ?_)<;>conv=>whnf)
    apply eK<;>intro g7;all_goals conv=>whnf
    ·have Df:m5 u (aF M.objs n).cls g.pc (aV u g.U).catches=some (aV u g.U).catches[i]:=by
      rw[m6 _ i QM,List.drop_eq_getElem_cons bV,m5,if_pos ⟨by omega,g7⟩]
     rw[Df]at dW;simp only at dW;repeat' ((first|refine aG Lf ?_|refine ld Qv ?_|refine aq ?_|refine ah ?_|refine ptr ?_)<;>conv=>whnf)
     refine lP kz (i:=1) [.int .i64 g.U,.int .i64 (aV u g.U).catches[i].to,v1,v2] (by omega) (by simp) rfl (λh2 iD tY=>?_);conv=>whnf
     refine aj (nq _ _) ?_;conv=>whnf
     refine ec [.bool true,.int .i64 n] rfl (λb h3 hb kB l3 Le=>?_);conv=>whnf
     have gL:h1 b=none:=by
      rw[iD]at hb;by_cases uC:b=bf
      ·subst uC;simp[Heap.set]at hb
      ·simpa [Heap.set,uC]using hb
     have Sg:b≠bf:=by rintro rfl;rw[tY]at hb;cases hb
     refine lP (l3 _ _ tY) (i:=3) [.int .i64 g.U,.int .i64 (aV u g.U).catches[i].to,v1,.slice (some ⟨b,0,none⟩) 1 1] (by omega) (by simp) rfl (λh4 yg Sh=>?_);have rD:∀ x,x≠bf->x≠b->h4 x=h1 x:=by
      intro x n1 n2;rw[yg,kB,iD];simp[Heap.set,n1,n2]
     have Ul:h4 b=some (.cells [Value.bool true,.int .i64 n].toArray 31 (0,0)):=by
      rw[yg];simp only[Heap.set,Sg,if_false];exact Le
     have Si:∀ x∈Bl,x≠bf/\x≠b:=λx hx=>⟨(cH x (by simp[hx])).1,by rintro rfl;obtain⟨o,ho⟩:=o1.in x hx;rw[gL]at ho;cases ho⟩
     have Ep:=fe h4 {g with pc:=(aV u g.U).catches[i].to,stack:=[⟨true,n⟩]} v1 (.slice (some ⟨b,0,none⟩) 1 1) Bl [b] Sh
      (λx hx hn=>by
       have n1:x≠bf:=λhy=>hx (by simp[hy]);have n2:x≠b:=by rintro rfl;exact hn gL
       exact rD x n1 n2)
      (o1.aJ λx hx o ho=>by rw[rD x (Si x hx).1 (Si x hx).2];exact ho)
      (jC (t:=31) (by simp[bR]) rfl (by rw[Ul];rfl))
      (λx hx=>by
       rcases u_.1 hx with hx|hx
       ·exact .inl (by simp[hx])
       ·rw[V_.1 hx];exact .inr gL)
      (by
       have n1:Nd Bl:=nd.less λa=>by simp only[Y_];omega
       intro a;have:=n1 a;simp only[Y_,X_,List.count_nil];by_cases ha:b=a
       ·subst ha;have:Bl.count b=0:=List.count_eq_zero.2 λhx=>(Si b hx).2 rfl;simp[this]
       ·simp[ha];exact this)
     conv=>whnf
     rw[<-dW];exact XE.trans gh Ep.SO
    ·refine ah ?_;conv=>whnf
     refine dm (i+1) ⟨by omega,go (λhx=>by rw[hx.2]at g7;cases g7)⟩ (by omega) rfl
   ·refine ah ?_;conv=>whnf
    refine dm (i+1) ⟨by omega,go (λhx=>g6 ⟨hx.1.1,by omega⟩)⟩ (by omega) rfl
  ·have Df:m5 u (aF M.objs n).cls g.pc (aV u g.U).catches=none:=by
    rw[m6 _ (aV u g.U).catches.length (λj hj _=>QM j hj (by omega)),List.drop_length];rfl
   rw[Df]at dW;simp only at dW;obtain⟨t',Sj,c',yW,og,Lg,gF,B2,Af,iE⟩:=fR.ma.OJ (fs:=gs) (f:=g) rfl;have Ed:rd h1 bx 3=some (.slice Sj (gs.length+1) c'):=bE Lg (i:=1) rfl rfl;rw[r3]at Ed;simp only[v_,Z_]at Ed;obtain⟨rfl,_,rfl⟩:=Ed;repeat' ((first|refine ld r3 ?_|refine aq ?_|refine ah ?_|refine ptr ?_)<;>conv=>whnf)
   have Lb:(((gs++[g]).length:Int)-1).toNat=gs.length:=by omega
   refine lP Lg (i:=1) (ay yW (.slice pf (((gs++[g]).length:Int)-1).toNat cf) og {M with ag:=gs++[g]}) rfl (by simp[ay]) rfl (λh2 iD tY=>?_);rw[Lb]at iD tY;rw[<-iD]at Af iE;conv=>whnf
   refine dm (gs,h2,B2) ⟨⟨Af,hX.un⟩,gh.trans iE,dW,by simp at tQ ⊢;omega,λx hx=>ug x (by simp[hx])⟩ (by simp) rfl
 ·have Lc:fs=[]:=List.eq_nil_of_length_eq_zero (show fs.length=0 by simpa using g0);subst Lc;obtain⟨t',yW,Ea,og,bA,_,_,_,hint⟩:=fR.ma.ints;refine lP bA (i:=4) (ay yW Ea og {M with ag:=[],fin:=2}) rfl (by simp[ay]) rfl (λh2 iD tY=>?_);conv=>whnf
  refine aj (nq _ _) ?_;conv=>whnf
  refine Ag tY ([.slice p u.J.length cc,.slice q u.methods.length d]++ay yW Ea og {M with ag:=[],fin:=2,out:=⟨true,n⟩}++[.bool sk,.int .i64 ft]) (by simp[ay]) rfl (λh3 kB Le=>?_);obtain⟨Af,iE⟩:=hint {M with ag:=[],fin:=2,out:=⟨true,n⟩} rfl rfl rfl;have Ee:h3=h1.set bx (.cells (([.slice p u.J.length cc,.slice q u.methods.length d]++ay yW Ea og {M with ag:=[],fin:=2,out:=⟨true,n⟩}++[.bool sk,.int .i64 ft]:List Value)).toArray t' (0,0)):=by
   rw[kB,iD,set_set]
  rw[<-Ee]at Af iE;conv=>whnf
  rw[<-dW];exact⟨B1,⟨Af,hX.un⟩,gh.trans iE⟩
theorem dX {sz:Nat} {h:Heap} {b:Nat} {t:TypeId} (hb:h b=some (.cells #[] t (0,0))):cr sz h (.slice (some ⟨b,0,none⟩) 0 0) [] [b]:=⟨by simp,.inr ⟨b,0,[],t,rfl,by simp,by simpa using hb,by simp,rfl⟩⟩
theorem Gw (us:List Value) (u:aO) (k:Int) (given:List Vl) (v:Value) (h:Heap) (hu:dG h us u) (hk:0<=k/\k < u.methods.length) (hg:oP h v given) (hl:given.length<=1000) (mX:(aV u k).locals<=1000) :
  bI prog 113 [.agg ⟨us⟩,.int .i64 k,v] h λv' h'=>h.le h'/\∃ v1 v2 B1 B2,v'=.agg #[.int .i64 k,.int .i64 0,v1,v2]/\cj h' v1 (gO u k given).locals B1/\cj h' v2 [] B2/\Nd (B1++B2)/\∀ b∈B1++B2,h b=none:=by
 obtain⟨p,cc,q,d,rfl,hcs,fM,ji,hl2⟩:=hu.form;have hi:k.toNat < u.methods.length:=by omega
 have e:=fM.get hi;obtain⟨bb,oo,ms,wA,e1,e2⟩:=e;have oE:aV u k=u.methods[k.toNat]:=gU hi (by omega);obtain⟨p1,c1,p2,c2,p3,c3,p4,c4,e3,_⟩:=e2.form;subst e3;have r4:rd h bb (oo+k.toNat*8+4)=some (.int .i64 (aV u k).locals):=by rw[oE];exact aE e1 (i:=4) rfl
 have Uq:=hg;obtain⟨hg1,tY,pg,cg,rfl,Le,QM⟩:=hg;have hlen:=eL bR given;refine bZ au func113 VJ VK rfl ?_;conv=>whnf
 refine ec [] rfl (λb1 h1 gL ee1 l1 g1=>?_);conv=>whnf
 refine(Uq.le l1).OF ?_;conv=>whnf
 refine dA (h0:=h) (xs:=[]) (ys:=given.map bR) (B:=[b1]) (dX g1) (by simpa using gL) l1 rfl rfl (by simp[bR]) (jM given) rfl (by simp;omega) (by simp;omega) ?_;intro v' h2 B2 k1 k2 k3 k4 k5;have uE:cj h2 v' given B2:=by simpa using k2
 have hf:=uE.form;obtain⟨pl,cl,rfl,_⟩:=hf;conv=>whnf
 refine ec [] rfl (λb3 h3 s7 ee3 l3 g3=>?_);have acG:h b3=none:=by
  cases hh:h b3 with
  | none=>rfl
  | some o=>rw[k1 b3 o hh]at s7;cases s7
 have zj:b3 ∉ B2:=λhx=>by
  obtain⟨o,ho⟩:=uE.in b3 hx;rw[s7]at ho;cases ho
 have HE:(given.map bR).length=given.length+0:=by simp
 have acH:cj h3 (.slice pl (given.length+0) cl) (given++List.replicate 0 cU) B2:=by
  rw[<-HE];simpa using uE.aJ (cR.of_le l3 _)
 rw[HE];conv=>whnf
 refine fh [1,3,6,7] [3,6,7] (λs:Nat × Heap × Option Addr × Nat × List Nat=>(s.1=0\/(given.length:Int)+s.1<=(aV u k).locals)/\h.le s.2.1/\cj s.2.1 (.slice s.2.2.1 (given.length+s.1) s.2.2.2.1) (given++List.replicate s.1 cU) s.2.2.2.2/\(∀ b∈s.2.2.2.2,h b=none)/\b3 ∉ s.2.2.2.2/\s.2.1 b3=some (.cells #[] 31 (0,0))) (λs=>(aV u k).locals.toNat-(given.length+s.1))
  (λs=>([.v (.int .i64 k),.l 3 0,.l 6 0,.l 7 0],[some [.slice p u.J.length cc,.slice q u.methods.length d],some [.int .i64 0,.int .i64 0,.slice none 0 0,.slice none 0 0],some [.int .i64 k,.int .i64 0,.slice s.2.2.1 (given.length+s.1) s.2.2.2.1,.slice (some ⟨b3,0,none⟩) 0 0]],s.2.1))
  (0,h3,pl,cl,B2) ⟨.inl rfl,y_ k1 l3,acH,k3,zj,g3⟩ rfl ?_
 rintro⟨j,h5,pp,c,Bv⟩ ⟨hj,l5,ov,nv,nb,gb⟩;simp only at hj l5 ov nv nb gb ⊢;have r4':=aX l5 r4;conv=>whnf
 repeat' ((first|refine aG wA ?_|refine ld r4' ?_|refine aq ?_|refine ah ?_|refine ptr ?_)<;>conv=>whnf)
 apply ax<;>intro g;all_goals conv=>whnf
 ·repeat' ((first|exact trivial|refine aK (oV _ _) ?_|apply T_)<;>conv=>whnf)
  all_goals
   have dj:((given++List.replicate j cU).map bR).length=given.length+j:=by simp
   refine dA (h0:=h) (ys:=[bR cU]) ov nv l5 rfl rfl (by simp[bR]) rfl rfl (by simp;omega) (by simp;omega) ?_;intro v' h6 B6 q1 q2 q3 q4 q5;have QL:cj h6 v' (given++List.replicate (j+1) cU) B6:=by
    unfold cj;rw[List.replicate_succ',<-List.append_assoc,List.map_append];exact q2
   obtain⟨p',c',rfl,_⟩:=QL.form;have Cv:((given++List.replicate (j+1) cU).map bR).length=given.length+(j+1):=by simp
   rw[Cv]at QL ⊢;conv=>whnf
   refine dm (j+1,h6,p',c',B6) ⟨.inr (by omega),q1,QL,q3,λhx=>?_,?_⟩ (by simp only;omega) rfl
   ·rcases q5 b3 hx with hy|hy
    ·exact nb hy
    ·rw[gb]at hy;cases hy
   ·show h6 b3=_;rw[q4 b3 nb (by rw[gb];simp)];exact gb
 ·have hje:j=(aV u k).locals.toNat-given.length:=by omega
  refine⟨l5,_,_,Bv,[b3],rfl,?_,dX gb,?_,?_⟩
  ·unfold gO;rw[<-hje];exact ov
  ·intro a;have:=ov.nd a;simp only[Y_,X_,List.count_nil];by_cases ha:b3=a
   ·subst ha;simp[List.count_eq_zero.2 nb]
   ·simp[ha];exact this
  ·intro b hb;simp only[u_,V_]at hb;rcases hb with hb|rfl
   ·exact nv b hb
   ·exact acG
def bP (u:aO) (x:ez):Int :=
 if x.kind=20 then (aV u x.a).args.length
 else if x.kind=21 then (if 0<=find u x.a x.b then (aV u (find u x.a x.b)).args.length+1 else -1)
 else -1
theorem rI (us:List Value) (u:aO) (kind a b:Int) (h:Heap) (hu:dG h us u) (ok:cI u.J) (Fo:kind=20->0<=a/\a < u.methods.length) (Fp:kind=21->0<=a/\a < u.J.length) :
  Pure prog 123 [.agg ⟨us⟩,.agg #[.int .i64 kind,.int .i64 a,.int .i64 b]] h (.int .i64 (bP u ⟨kind,a,b⟩)):=by
 have iw:=hu;obtain⟨p,cc,q,d,rfl,hcs,fM,ji,hl2⟩:=hu.form;have args:∀ k:Int,0<=k->k < u.methods.length->∃ bb oo pa ca,q=some ⟨bb,oo,none⟩/\rd h bb (oo+k.toNat*8+2)=some (.slice pa (aV u k).args.length ca)/\(aV u k).args.length<=140737488351232:=by
  intro k Nv HF;have hi:k.toNat < u.methods.length:=by omega
  obtain⟨bb,oo,ms,wA,e1,e2⟩:=fM.get hi;have oE:aV u k=u.methods[k.toNat]:=gU hi (by omega);obtain⟨p1,c1,p2,c2,p3,c3,p4,c4,e3,k1,k2,k3,k4,k5,k6,k7,k8,d1,d2,d3,d4⟩:=e2.form;subst e3;exact⟨bb,oo,p1,c1,wA,by rw[oE];exact aE e1 (i:=2) rfl,by rw[oE];exact k5.1⟩
 by_cases g1:kind=20
 ·subst g1;have ha:=Fo rfl;obtain⟨bb,oo,pa,ca,hq,r2,_⟩:=args a ha.1 ha.2;refine iC au func123 KB Hz rfl ?_;conv=>whnf
  repeat' ((first|refine aG hq ?_|refine ld r2 ?_|refine aq ?_|refine ah ?_|refine ptr ?_)<;>conv=>whnf)
  exact⟨rfl,rfl⟩
 by_cases g2:kind=21
 ·subst g2;have ha:=Fp rfl;have hf:=jN u a b;have NS:bP u ⟨21,a,b⟩=if 0<=find u a b then ((aV u (find u a b)).args.length:Int)+1 else -1:=rfl
  by_cases g3:0<=find u a b
  ·obtain⟨bb,oo,pa,ca,hq,r2,hle⟩:=args (find u a b) g3 hf.2;rw[NS,if_pos g3];have Df:=rC _ u a b h iw ok (by omega) ha.2;generalize find u a b=k at *;refine iC au func123 KB Hz rfl ?_;conv=>whnf
   refine aj Df ?_;conv=>whnf
   refine gI g3 ?_;conv=>whnf
   repeat' ((first|refine aG hq ?_|refine ld r2 ?_|refine aq ?_|refine ah ?_|refine ptr ?_)<;>conv=>whnf)
   exact⟨rfl,rfl⟩
  ·rw[NS,if_neg g3];have Df:=rC _ u a b h iw ok (by omega) ha.2;refine iC au func123 KB Hz rfl ?_;conv=>whnf
   refine aj Df ?_;conv=>whnf
   refine cM g3 ?_;conv=>whnf
   exact⟨rfl,rfl⟩
 ·have NS:bP u ⟨kind,a,b⟩ = -1:=by simp[bP,g1,g2]
  rw[NS];refine iC au func123 KB Hz rfl ?_;conv=>whnf
  refine cM g1 ?_;conv=>whnf
  refine cM g2 ?_;conv=>whnf
  exact⟨rfl,rfl⟩
theorem XS.rest {h0 h:Heap} {bx:Nat} {us:List Value} {u:aO} {x:Sx} {B:List Nat} {bf:Nat} (hX:XS h0 h bx us u x B) (ht:Tp h bx x.fs.length bf) (hs:x.f.stack.length<=1000) {m:Nat} (hm:m<=x.f.stack.length) :
  ∃ p2 c2,rd h bf (x.fs.length*4+3)=some (.slice p2 (x.f.stack.map bR).length c2)/\x.f.stack.length<=c2/\(∀ oa,(c2≠m->oa=p2.map λa=>a.add (m*2))->(c2=m->oa=p2)->oP h (.slice oa ((x.f.stack.map bR).length-m) (c2-m)) (x.f.stack.drop m)) /\
   ∀ K:Heap->Prop,(∀ h',XR h0 h bx us u B {x with f:={x.f with stack:=x.f.stack.take m} } h'->K h')->St h bf (x.fs.length*4+3) [.slice p2 m c2] K:=by
 obtain⟨t,q,r,v1,p2,c2,B2,kz,hq,o2,gz,r3,fe⟩:=hX.cP ht;have hlen:=eL bR x.f.stack;obtain⟨_,_,he,gF⟩:=o2.form;simp only[Z_]at he;obtain⟨_,_,rfl⟩:=he;refine⟨p2,c2,r3,by simpa using gF,λoa k1 k2=>?_,λK hk=>?_⟩
 ·have:=cr.rest (sz:=2) o2 (l:=m) (by simp;omega) (by simp;omega) k1 k2;rw[xD]at this;exact this
 ·have o3:cj h (.slice p2 m c2) (x.f.stack.take m) B2:=by
   have:=cr.first (l:=m) o2 (by simp;omega);rw[<-List.map_take]at this;exact this
  have Ep:=(fe h _ B2 (x.f.stack.take m) x.f.pc (λ_ _ _=>rfl) o3 (λb hb=>.inl hb)).2;refine lP kz (i:=3) [.int .i64 x.f.U,.int .i64 x.f.pc,v1,.slice p2 m c2] (by omega) (by simp) rfl (λh9 OK _=>?_);rw[<-OK]at Ep;exact hk h9 Ep
def kH (u:aO) (x:Sx) (i:ez):bM × Bool × Int :=
 if bP u i < 0\/(x.f.stack.length:Int) < bP u i then ({x with st:=true}:Sx).res
 else
  let given:=x.f.stack.drop (x.f.stack.length-(bP u i).toNat)
  let y:=if i.kind=21 then (if (given.getD 0 cU).ref=false then {x with st:=true}else bB u x (given.getD 0 cU).n i.a)else x
  if i.kind=21/\y.bad then y.res
  else if x.fs.length+1=4 then (cQ y 6).res
  else (⟨x.objs,x.fs++[{x.f with stack:=x.f.stack.take (x.f.stack.length-(bP u i).toNat)}]++[gO u (if i.kind=21 then find u (aF x.objs (given.getD 0 cU).n).cls i.b else i.a) given],x.said,x.steps,x.fin,x.out⟩,y.st,y.ft)
theorem XM.AU {h0 h:Heap} {bx:Nat} {us:List Value} {u:aO} {M:bM} {sk:Bool} {ft:Int} {B:List Nat} (hX:XM h0 h bx us u M sk ft B) (hl:M.ag.length<=1000) :
  ∃ pf cf,rd h bx 3=some (.slice pf M.ag.length cf)/\∀(h4:Heap),h.le h4->∀ {bytes:Nat} {zero:List Value} {el:TypeId} {m':Nat} (a:bQ) (Bv:List Nat) (y:List Value) (K:Value->Heap->Prop),qf h4 y a Bv->Nd Bv->(∀ b∈Bv,h b=none)->m'=1->y.length=4->eu y=true->zero.length=4->bytes<=1000 ->
   (∀ p' c' h5,(∀ K':Heap->Prop,(∀ h6,XE h0 h bx us u B ({M with ag:=M.ag++[a]},sk,ft) h6->K' h6)->St h5 bx 3 [.slice p' (M.ag.length+1) c'] K')->K (.slice p' (M.ag.length+1) c') h5)->App bytes 4 zero el h4 pf M.ag.length cf m' y K:=by
 obtain⟨t,pf,cf,vo,vs,hb,_⟩:=hX.ma.AU hl;have Fv:=hX.HR;refine⟨pf,cf,bE hb (i:=1) (by rw[Fv]) rfl,λh4 l4=>?_⟩;intro bytes zero el m' a Bv y K k1 k2 k3 k4 k5 k6 k7 k8 k9;have fW:=hX.ma.in;have hle:=hX.ma.le;obtain⟨t',Sj,cf',yW,og,bA,grow⟩:=(hX.mono l4).1.ma.AU hl;have e1:rd h4 bx 3=some (.slice pf M.ag.length cf):=aX l4 (bE hb (i:=1) (by rw[Fv]) rfl);rw[bE bA (i:=1) (by rw[Fv]) rfl]at e1;simp only[v_,Z_,true_and]at e1;obtain⟨rfl,rfl⟩:=e1;refine grow a Bv y K k1 k2 (λb fO=>⟨λhx=>?_,?_⟩) k4 k5 k6 k7 k8 (λp' c' h5 e1 e2 e3 hh=>k9 p' c' h5 (λK' hk=>?_))
 ·obtain⟨o,ho⟩:=fW b hx;rw[k3 b fO]at ho;cases ho
 ·cases hh:h0 b with
  | none=>rfl
  | some o=>have:=k3 b fO;rw[hle b o hh]at this;cases this
 ·obtain⟨B',hM,ev⟩:=hh;refine lP (e1.trans bA) (i:=1) (ay yW (.slice p' (M.ag.length+1) c') og M) (by rw[Fv]) (by simp[ay]) rfl (λh6 Zt _=>?_);rw[<-Zt]at hM ev;exact hk h6 ⟨B',⟨hM,hX.un⟩,(Ev.of_le l4 ((bx::B)++Bv) (λb fO=>(u_.1 fO).imp id (k3 b))).trans ev⟩
theorem nu {K:Value->Heap->Prop} {E:List PanicEntry->Heap->Prop} (us:List Value) (u:aO) (k:Int) (given:List Vl) (v:Value) (h:Heap) (hu:dG h us u) (hk:0<=k/\k < u.methods.length) (hg:oP h v given) (hl:given.length<=1000) (mX:(aV u k).locals<=1000)
  (hK:∀ h' p1 n1 c1 p2 n2 c2 B1 B2,h.le h'->cj h' (.slice p1 n1 c1) (gO u k given).locals B1->cj h' (.slice p2 n2 c2) [] B2->Nd (B1++B2)->(∀ b∈B1++B2,h b=none)->K (.agg #[.int .i64 k,.int .i64 0,.slice p1 n1 c1,.slice p2 n2 c2]) h') :
  iF prog 113 [.agg ⟨us⟩,.int .i64 k,v] h K E:=cX (Gw us u k given v h hu hk hg hl mX) (λv' h' hh=>by
 obtain⟨l1,v1,v2,B1,B2,rfl,o1,o2,nd,fr⟩:=hh;obtain⟨p1,c1,rfl,_⟩:=o1.form;obtain⟨p2,c2,rfl,_⟩:=o2.form;exact⟨l1,hK h' _ _ _ _ _ _ B1 B2 l1 o1 o2 nd fr⟩)
theorem Eu {u:aO} {x:Sx} {a b:Int} (qN:¬(bP u ⟨20,a,b⟩ < 0\/(x.f.stack.length:Int) < bP u ⟨20,a,b⟩)):kH u x ⟨20,a,b⟩ =
  if x.fs.length+1=4 then (cQ x 6).res else (⟨x.objs,x.fs++[{x.f with stack:=x.f.stack.take (x.f.stack.length-(bP u ⟨20,a,b⟩).toNat)}]++[gO u a (x.f.stack.drop (x.f.stack.length-(bP u ⟨20,a,b⟩).toNat))],x.said,x.steps,x.fin,x.out⟩,x.st,x.ft):=by
 unfold kH;rw[if_neg qN];simp
theorem Ew {u:aO} {x:Sx} {a b:Int} (qN:¬(bP u ⟨21,a,b⟩ < 0\/(x.f.stack.length:Int) < bP u ⟨21,a,b⟩)) {v0:Vl} (hv:(x.f.stack.drop (x.f.stack.length-(bP u ⟨21,a,b⟩).toNat)).getD 0 cU=v0):kH u x ⟨21,a,b⟩ =
  if v0.ref=false then ({x with st:=true}:Sx).res else if (bB u x v0.n a).bad then (bB u x v0.n a).res else if x.fs.length+1=4 then (cQ (bB u x v0.n a) 6).res
  else (⟨x.objs,x.fs++[{x.f with stack:=x.f.stack.take (x.f.stack.length-(bP u ⟨21,a,b⟩).toNat)}]++[gO u (find u (aF x.objs v0.n).cls b) (x.f.stack.drop (x.f.stack.length-(bP u ⟨21,a,b⟩).toNat))],x.said,x.steps,x.fin,x.out⟩,(bB u x v0.n a).st,(bB u x v0.n a).ft):=by
 unfold kH;rw[if_neg qN];simp only[hv];by_cases h1:v0.ref=false
 ·simp[h1,Sx.bad]
 ·simp[h1]
theorem Ja {h0 h:Heap} {bx:Nat} {us:List Value} {u:aO} {x:Sx} {B:List Nat} (hX:XS h0 h bx us u x B) (hs:mg u x) (hu:cz u) (a b:Int) (eB:x.st=false) (xW:x.ft=0)
  (ha:0<=a/\a < u.methods.length) :
  bI prog 128 [.pointer (some ⟨bx,0,none⟩),.agg #[.int .i64 20,.int .i64 a,.int .i64 b]] h λ_ h'=>XE h0 h bx us u B (kH u x ⟨20,a,b⟩) h':=by
 have ok:=hu.1;obtain⟨bf,ht⟩:=hX.tp;have jL:=vz hX ht hs.CK;have hs4:=hs.iN.2.2.2.1;have Eh:=hs.nf;obtain⟨r9,iM,_,_,_,p,cc,q,d,rfl,r0,rm,SR,hcs,fM⟩:=hX.me;have SS:=rI [.slice p u.J.length cc,.slice q u.methods.length d] u 20 a b h (hX.un.le hX.ma.le) ok (by exact λ_=>ha) (by simp);have hlen:=eL bR x.f.stack;have fW:=hX.ma.in;by_cases qN:bP u ⟨20,a,b⟩ < 0\/(x.f.stack.length:Int) < bP u ⟨20,a,b⟩
 ·have yU:kH u x ⟨20,a,b⟩=({x with st:=true}:Sx).res:=if_pos qN;rw[yU];generalize bP u ⟨20,a,b⟩=n at SS qN;obtain⟨p2,c2,r3,_⟩:=hX.rest ht hs.yf (m:=0) (by omega);refine bZ au func128 KC HA rfl ?_;conv=>whnf
  refine aj jL ?_;conv=>whnf
  repeat' ((first|refine dJ SR ?_|refine aK SS ?_|refine aq ?_|refine ah ?_|refine ptr ?_)<;>conv=>whnf)
  apply ax<;>intro g;all_goals conv=>whnf
  ·refine hX.stuck (λh1 fR gh e1=>?_);conv=>whnf
   exact⟨B,fR,gh⟩
  ·refine ld r3 ?_;conv=>whnf
   refine cx ?_;conv=>whnf
   refine hX.stuck (λh1 fR gh e1=>?_);conv=>whnf
   exact⟨B,fR,gh⟩
 have yU:=Eu qN;generalize bP u ⟨20,a,b⟩=n at *;have qP:0<=n/\n<=x.f.stack.length:=by omega
 obtain⟨m,hm⟩:∃ m,m=x.f.stack.length-n.toNat:=⟨_,rfl⟩
 rw[<-hm]at yU;generalize kH u x ⟨20,a,b⟩=res at yU ⊢;obtain⟨p2,c2,r3,JS,LI,_⟩:=hX.rest ht hs.yf (m:=m) (by omega);have I9:(((x.f.stack.map bR).length:Int)-n).toNat=m:=by omega
 have Dk:(x.f.stack.drop m).length=n.toNat:=by simp;omega
 have hz:∀(h1:Heap) (oa:Option Addr),h.le h1->(c2≠(((x.f.stack.map bR).length:Int)-n).toNat->oa=p2.map λa=>a.add ((((x.f.stack.map bR).length:Int)-n).toNat*2))->(c2=(((x.f.stack.map bR).length:Int)-n).toNat->oa=p2) ->
   oP h1 (.slice oa ((x.f.stack.map bR).length-(((x.f.stack.map bR).length:Int)-n).toNat) (c2-m)) (x.f.stack.drop m):=by
  rw[I9];exact λh1 oa l1 k1 k2=>(LI oa k1 k2).le l1
 refine bZ au func128 KC HA rfl ?_;conv=>whnf
 refine aj jL ?_;conv=>whnf
 repeat' ((first|refine dJ SR ?_|refine aK SS ?_|refine aq ?_|refine ah ?_|refine ptr ?_)<;>conv=>whnf)
 refine bH ?_;conv=>whnf
 refine ld r3 ?_;conv=>whnf
 refine bH ?_;conv=>whnf
 have hsz:(List.map bR x.f.stack).length-(((List.map bR x.f.stack).length:Int)-n).toNat=((x.f.stack.drop m).map bR).length:=by simp;omega
 repeat' ((first|exact trivial|apply T_|refine ld r3 ?_|refine ld (aX l1 r3) ?_|refine aq ?_|refine ah ?_|refine ec [] rfl (λb1 h1 gL ee1 l1 g1=>?_)|refine Go.Proofs.sub (λoa q1 q2=>?_))<;>conv=>whnf)
 all_goals
  refine mZ.OF (hz h1 oa l1 q1 q2) ?_;conv=>whnf
  refine dA (h0:=h) (xs:=[]) (ys:=(x.f.stack.drop m).map bR) (B:=[b1]) (dX g1) (by simpa using gL) l1 rfl hsz (λy hy=>by obtain⟨w,_,rfl⟩:=List.mem_map.1 hy;rfl) (jM _) rfl (by simp;omega) (by simp;omega) ?_;intro v' h2 Bg k1 k2 k3 k4 k5;have uE:cj h2 v' (x.f.stack.drop m) Bg:=by rw[List.nil_append]at k2;exact k2
  have hf:=uE.form;obtain⟨pg,cg,rfl,_⟩:=hf;conv=>whnf
  have Ga:=hX.mono k1;have pJ:XS h0 h2 bx [.slice p u.J.length cc,.slice q u.methods.length d] u x B:=Ga.1;have LJ:Tp h2 bx x.fs.length bf:=by obtain⟨c0,q0⟩:=ht;exact⟨c0,aX k1 q0⟩
  have acI:=bK k1 SR;refine LJ.elim λcf I6=>?_;refine ld I6 ?_;conv=>whnf
  apply ax<;>intro gf;all_goals conv=>whnf
  ·refine aC (kV pJ 6) (λv h3 hh=>?_);conv=>whnf
   rw[yU,if_pos (by omega)];exact XE.trans Ga.2.1 hh.SO
  ·refine(pJ.rest LJ hs.yf (m:=m) (by omega)).elim λp3 hr=>hr.elim λc3 hr=>?_;have w3:=hr.1;have wc:=hr.2.1;have Zu:=hr.2.2.2;rw[<-I9]at Zu;repeat' ((first|exact trivial|apply T_|refine ld w3 ?_|refine aq ?_|refine ah ?_)<;>conv=>whnf)
   all_goals
    refine Zu _ (λh3 hh=>?_);rw[I9]at hh;refine hh.elim λB3 kB=>?_;have lR:=kB.1;have sY:=Ga.2.1.trans kB.2.1;refine(XM.AU lR (show(x.fs++[_]).length<=1000 by simp;omega)).elim λpf hg=>hg.elim λcf2 hg=>hg.elim λBj grow=>?_;have SU:=lR.me.2.2.2.2.2;refine SU.elim λpa hr=>hr.elim λca hr=>hr.elim λqa hr=>hr.elim λda hr=>?_;have he:=hr.1;simp only[List.cons.injEq,Z_,true_and,and_true]at he;have Zv:=he.1.1;have Zw:=he.1.2;have Jb:=he.2.1;have Zx:=he.2.2;subst Zv Zw Jb Zx;have LK:=hr.2.2.2.1;have hog:cj h3 (.slice pg ((x.f.stack.drop m).map bR).length cg) (x.f.stack.drop m) Bg:=uE.aJ λb hb o ho=>by
     rw[kB.2.1.iB b (by rw[ho];simp) (λhx=>?_)]
     ·exact ho
     ·obtain⟨o2,LM⟩:=fW b hx;rw[k3 b hb]at LM;cases LM
    have hfk:∀ {K:Value->Heap->Prop} {E:List PanicEntry->Heap->Prop},_->iF prog 113 [.agg #[.slice p u.J.length cc,.slice q u.methods.length d],.int .i64 (a),.slice pg ((x.f.stack.drop m).map bR).length cg] h3 K E:=λ{K E} hK=>nu _ u (a) (x.f.stack.drop m) _ h3 (hX.un.le lR.ma.le) ha (hog.read (by simp;omega)) (by omega) (by have:=(hu.aV ha).1.2.2.2.2.1;omega) hK;conv=>whnf
    repeat' ((first|exact trivial|apply T_|refine dJ LK ?_|refine ld Bj ?_|refine ld (aX l4 Bj) ?_|refine hfk (λh4 p5 n5 c5 p6 n6 c6 B5 B6 l4 o5 o6 n56 f56=>?_))<;>conv=>whnf)
    all_goals
     refine grow h4 l4 (gO u (a) (x.f.stack.drop m)) (B5++B6) _ _ ⟨_,_,B5,B6,rfl,o5,o6,rfl⟩ n56 f56 rfl rfl rfl rfl (by simp) (λp' c' h5 SV=>?_);conv=>whnf
     refine SV _ (λh6 Zt=>?_);conv=>whnf
     rw[yU,if_neg (by omega)];exact XE.trans sY Zt
theorem Jc {h0 h:Heap} {bx:Nat} {us:List Value} {u:aO} {x:Sx} {B:List Nat} (hX:XS h0 h bx us u x B) (hs:mg u x) (hu:cz u) (a b:Int) (eB:x.st=false) (xW:x.ft=0)
  (ha:0<=a/\a < u.J.length) (hsend:0<=find u a b->∀ c:Int,c < u.J.length->up u.J c a=true->0<=find u c b) :
  bI prog 128 [.pointer (some ⟨bx,0,none⟩),.agg #[.int .i64 21,.int .i64 a,.int .i64 b]] h λ_ h'=>XE h0 h bx us u B (kH u x ⟨21,a,b⟩) h':=by
 have ok:=hu.1;obtain⟨bf,ht⟩:=hX.tp;have jL:=vz hX ht hs.CK;have hs4:=hs.iN.2.2.2.1;have Eh:=hs.nf;obtain⟨r9,iM,_,_,_,p,cc,q,d,rfl,r0,rm,SR,hcs,fM⟩:=hX.me;have SS:=rI [.slice p u.J.length cc,.slice q u.methods.length d] u 21 a b h (hX.un.le hX.ma.le) ok (by simp) (by exact λ_=>ha);have hlen:=eL bR x.f.stack;have fW:=hX.ma.in;by_cases qN:bP u ⟨21,a,b⟩ < 0\/(x.f.stack.length:Int) < bP u ⟨21,a,b⟩
 ·have yU:kH u x ⟨21,a,b⟩=({x with st:=true}:Sx).res:=if_pos qN;rw[yU];generalize bP u ⟨21,a,b⟩=n at SS qN;obtain⟨p2,c2,r3,_⟩:=hX.rest ht hs.yf (m:=0) (by omega);refine bZ au func128 KC HA rfl ?_;conv=>whnf
  refine aj jL ?_;conv=>whnf
  repeat' ((first|refine dJ SR ?_|refine aK SS ?_|refine aq ?_|refine ah ?_|refine ptr ?_)<;>conv=>whnf)
  apply ax<;>intro g;all_goals conv=>whnf
  ·refine hX.stuck (λh1 fR gh e1=>?_);conv=>whnf
   exact⟨B,fR,gh⟩
  ·refine ld r3 ?_;conv=>whnf
   refine cx ?_;conv=>whnf
   refine hX.stuck (λh1 fR gh e1=>?_);conv=>whnf
   exact⟨B,fR,gh⟩
 have SW:bP u ⟨21,a,b⟩=if 0<=find u a b then ((aV u (find u a b)).args.length:Int)+1 else -1:=rfl
 have hfa:0<=find u a b:=by
  rw[SW]at qN;split at qN
  ·assumption
  ·simp at qN
 have AX:1<=bP u ⟨21,a,b⟩:=by
  rw[SW,if_pos hfa];omega
 clear SW;obtain⟨v0,qE⟩:∃ v0,(x.f.stack.drop (x.f.stack.length-(bP u ⟨21,a,b⟩).toNat)).getD 0 cU=v0:=⟨_,rfl⟩
 have yU:=Ew qN qE;generalize bP u ⟨21,a,b⟩=n at *;have qP:0<=n/\n<=x.f.stack.length:=by omega
 obtain⟨m,hm⟩:∃ m,m=x.f.stack.length-n.toNat:=⟨_,rfl⟩
 rw[<-hm]at yU qE;generalize kH u x ⟨21,a,b⟩=res at yU ⊢;obtain⟨p2,c2,r3,JS,LI,_⟩:=hX.rest ht hs.yf (m:=m) (by omega);have I9:(((x.f.stack.map bR).length:Int)-n).toNat=m:=by omega
 have Dk:(x.f.stack.drop m).length=n.toNat:=by simp;omega
 have Uq:0 < (x.f.stack.drop m).length:=by omega
 have Ht:(x.f.stack.drop m)[0]=v0:=by rw[<-qE,sI Uq]
 have acJ:v0∈x.f.stack:=by
  rw[<-Ht];exact List.mem_of_mem_drop (x_ _)
 have acK:=hs.iN.2.2.2.2.2 v0 acJ;have vq:=hs.len.2;have hz:∀(h1:Heap) (oa:Option Addr),h.le h1->(c2≠(((x.f.stack.map bR).length:Int)-n).toNat->oa=p2.map λa=>a.add ((((x.f.stack.map bR).length:Int)-n).toNat*2))->(c2=(((x.f.stack.map bR).length:Int)-n).toNat->oa=p2) ->
   oP h1 (.slice oa ((x.f.stack.map bR).length-(((x.f.stack.map bR).length:Int)-n).toNat) (c2-m)) (x.f.stack.drop m):=by
  rw[I9];exact λh1 oa l1 k1 k2=>(LI oa k1 k2).le l1
 refine bZ au func128 KC HA rfl ?_;conv=>whnf
 refine aj jL ?_;conv=>whnf
 repeat' ((first|refine dJ SR ?_|refine aK SS ?_|refine aq ?_|refine ah ?_|refine ptr ?_)<;>conv=>whnf)
 refine bH ?_;conv=>whnf
 refine ld r3 ?_;conv=>whnf
 refine bH ?_;conv=>whnf
 have hsz:(List.map bR x.f.stack).length-(((List.map bR x.f.stack).length:Int)-n).toNat=((x.f.stack.drop m).map bR).length:=by simp;omega
 repeat' ((first|exact trivial|apply T_|refine ld r3 ?_|refine ld (aX l1 r3) ?_|refine aq ?_|refine ah ?_|refine ec [] rfl (λb1 h1 gL ee1 l1 g1=>?_)|refine Go.Proofs.sub (λoa q1 q2=>?_))<;>conv=>whnf)
 all_goals
  refine mZ.OF (hz h1 oa l1 q1 q2) ?_;conv=>whnf
  refine dA (h0:=h) (xs:=[]) (ys:=(x.f.stack.drop m).map bR) (B:=[b1]) (dX g1) (by simpa using gL) l1 rfl hsz (λy hy=>by obtain⟨w,_,rfl⟩:=List.mem_map.1 hy;rfl) (jM _) rfl (by simp;omega) (by simp;omega) ?_;intro v' h2 Bg k1 k2 k3 k4 k5;have uE:cj h2 v' (x.f.stack.drop m) Bg:=by rw[List.nil_append]at k2;exact k2
  have hf:=uE.form;obtain⟨pg,cg,rfl,_⟩:=hf;conv=>whnf
  have Ga:=hX.mono k1;have pJ:XS h0 h2 bx [.slice p u.J.length cc,.slice q u.methods.length d] u x B:=Ga.1;have LJ:Tp h2 bx x.fs.length bf:=by obtain⟨c0,q0⟩:=ht;exact⟨c0,aX k1 q0⟩
  have acI:=bK k1 SR;refine(uE.two Uq).elim λbg htw=>?_;have hpg:=htw.1;subst hpg;have SX:=htw.2.1;rw[Ht]at SX;have w0:=aE SX (i:=0) rfl;have w1:=aE SX (i:=1) rfl;have adO:((x.f.stack.drop m).map bR).length=(x.f.stack.drop m).length:=by simp
  repeat' ((first|refine ld w0 ?_|refine aq ?_|refine ah ?_|refine ptr ?_)<;>conv=>whnf)
  apply cJ<;>intro gr;all_goals conv=>whnf
  ·refine pJ.stuck (λh3 lR sY e3=>?_);conv=>whnf
   rw[yU,if_pos gr];exact⟨B,lR,Ga.2.1.trans sY⟩
  have hnr:¬v0.ref=false:=by rw[gr];simp
  have SY:=acK.1 gr;repeat' ((first|exact trivial|apply T_|refine ld w1 ?_|refine aq ?_|refine ptr ?_)<;>conv=>whnf)
  all_goals
   refine aC (vD pJ hs ok v0.n a SY (by omega)) (λv ht3 hh=>?_);refine hh.2.1.elim λbn hv=>hv.elim λon hv=>?_;subst hv;refine hh.1.elim λBt3 hht=>?_;have JZ:=hht.1;have oW:=hh.2.2;have evt:=Ga.2.1.trans hht.2.1;have Zy:=hht.2.1;have rt3:=hht.2.2;by_cases dO:(bB u x v0.n a).bad
   ·have r9:=JZ.me.1;have iM:=JZ.me.2.1;conv=>whnf
    refine ld r9 ?_;conv=>whnf
    apply eK<;>intro g;all_goals conv=>whnf
    ·rw[yU,if_neg hnr,if_pos dO];exact⟨Bt3,JZ,evt⟩
    ·refine ld iM ?_;conv=>whnf
     refine gI (dO.resolve_left (by rw[g];simp)) ?_;conv=>whnf
     rw[yU,if_neg hnr,if_pos dO];exact⟨Bt3,JZ,evt⟩
   have hg:=oW dO;have QY:=hg.1;have dW:=hg.2.1;have tR:=lC hs dO;refine hg.2.2.elim λbo hg=>hg.elim λco hg=>?_;have nH:=hg.1;have hp:=hg.2;simp only[Value.pointer.injEq,v_,Addr.mk.injEq,and_true]at hp;have xK:=hp.1;have CM:=hp.2;subst xK;subst CM;rw[dW]at JZ dO yU;have lI:0<=(aF x.objs v0.n).cls/\up u.J (aF x.objs v0.n).cls a=true:=by
    unfold fU at tR;simp at tR;exact tR.2 ha.1
   have hO:=hs.Aj _ (iY (objs:=x.objs) QY SY.2);have Zz:(aF x.objs v0.n).cls < u.J.length:=by
    rcases hO.2 with ⟨h2,_⟩|⟨_,h2,_⟩
    ·omega
    ·exact h2
   refine(JZ.j6 QY SY.2).elim λbo2 hq=>hq.elim λUm hq=>hq.elim λvv hq=>hq.elim λBi hq=>?_;have qp:=hq.1;rw[nH]at qp;simp only[v_,Z_,Addr.mk.injEq,and_true,true_and]at qp;have fO:=qp.1;subst fO;have q3:=hq.2.1;have r9:=JZ.me.1;have iM:=JZ.me.2.1;rw[eB]at r9;rw[xW]at iM;have hut:=hX.un.le JZ.ma.le;have acL:=rC [.slice p u.J.length cc,.slice q u.methods.length d] u (aF x.objs v0.n).cls b ht3 hut ok (by omega) Zz;have SE:0<=find u (aF x.objs v0.n).cls b/\find u (aF x.objs v0.n).cls b < u.methods.length:=⟨hsend hfa _ Zz lI.2,(jN u _ _).2⟩
   have acM:=JZ.me.2.2.2.2.2;refine acM.elim λpa hr=>hr.elim λca hr=>hr.elim λqa hr=>hr.elim λda hr=>?_;have he:=hr.1;simp only[List.cons.injEq,Z_,true_and,and_true]at he;have Zv:=he.1.1;have Zw:=he.1.2;have Jb:=he.2.1;have Zx:=he.2.2;subst Zv Zw Jb Zx;have ZA:=hr.2.2.2.1;generalize (aF x.objs v0.n).cls=cl at *;generalize hkg:find u cl b=kk at *;conv=>whnf
   repeat' ((first|refine ld r9 ?_|refine ld iM ?_|refine aq ?_|refine ah ?_|refine ptr ?_)<;>conv=>whnf)
   repeat' ((first|exact trivial|apply T_|refine dJ ZA ?_|refine ld q3 ?_|refine aK acL ?_)<;>conv=>whnf)
   all_goals
    have ZB:Tp ht3 bx x.fs.length bf:=by obtain⟨c0,q0⟩:=LJ;exact⟨c0,by rw[rt3];exact q0⟩
    have acN:cj ht3 (.slice (some ⟨bg,0,none⟩) ((x.f.stack.drop m).map bR).length cg) (x.f.stack.drop m) Bg:=uE.aJ λb hb o ho=>by
     rw[Zy.iB b (by rw[ho];simp) (λhx=>by obtain⟨o2,LM⟩:=fW b hx;rw[k3 b hb]at LM;cases LM)];exact ho
    have acO:∀ b∈Bg,b ∉ bx::Bt3:=λb hb hx=>by
     rcases Zy.new b hx with hy|hy
     ·obtain⟨o2,LM⟩:=fW b hy;rw[k3 b hb]at LM;cases LM
     ·obtain⟨o2,LM⟩:=uE.in b hb;rw[hy]at LM;cases LM
    refine ZB.elim λcf I6=>?_;refine ld I6 ?_;conv=>whnf
    apply ax<;>intro gf;all_goals conv=>whnf
    ·refine aC (kV JZ 6) (λv h3 hh=>?_);conv=>whnf
     rw[yU,if_neg hnr,if_neg dO,if_pos (by omega)];exact XE.trans evt hh.SO
    ·refine(JZ.rest ZB hs.yf (m:=m) (by omega)).elim λp3 hr=>hr.elim λc3 hr=>?_;have w3:=hr.1;have wc:=hr.2.1;have Zu:=hr.2.2.2;rw[<-I9]at Zu;repeat' ((first|exact trivial|apply T_|refine ld w3 ?_|refine aq ?_|refine ah ?_)<;>conv=>whnf)
     all_goals
      refine Zu _ (λh3 hh=>?_);rw[I9]at hh;refine hh.elim λB3 kB=>?_;have lR:=kB.1;have sY:=evt.trans kB.2.1;refine(XM.AU lR (show(x.fs++[_]).length<=1000 by simp;omega)).elim λpf hg=>hg.elim λcf2 hg=>hg.elim λBj grow=>?_;have SU:=lR.me.2.2.2.2.2;refine SU.elim λpa hr=>hr.elim λca hr=>hr.elim λqa hr=>hr.elim λda hr=>?_;have he:=hr.1;simp only[List.cons.injEq,Z_,true_and,and_true]at he;have Zv:=he.1.1;have Zw:=he.1.2;have Jb:=he.2.1;have Zx:=he.2.2;subst Zv Zw Jb Zx;have LK:=hr.2.2.2.1;have hog:cj h3 (.slice (some ⟨bg,0,none⟩) ((x.f.stack.drop m).map bR).length cg) (x.f.stack.drop m) Bg:=acN.aJ λb hb o ho=>by
       rw[kB.2.1.iB b (by rw[ho];simp) (λhx=>?_)]
       ·exact ho
       ·exact acO b hb hx
      have hfk:∀ {K:Value->Heap->Prop} {E:List PanicEntry->Heap->Prop},_->iF prog 113 [.agg #[.slice p u.J.length cc,.slice q u.methods.length d],.int .i64 kk,.slice (some ⟨bg,0,none⟩) ((x.f.stack.drop m).map bR).length cg] h3 K E:=λ{K E} hK=>nu _ u kk (x.f.stack.drop m) _ h3 (hX.un.le lR.ma.le) SE (hog.read (by simp;omega)) (by omega) (by have:=(hu.aV SE).1.2.2.2.2.1;omega) hK;conv=>whnf
      repeat' ((first|exact trivial|apply T_|refine dJ LK ?_|refine ld Bj ?_|refine ld (aX l4 Bj) ?_|refine hfk (λh4 p5 n5 c5 p6 n6 c6 B5 B6 l4 o5 o6 n56 f56=>?_))<;>conv=>whnf)
      all_goals
       refine grow h4 l4 (gO u kk (x.f.stack.drop m)) (B5++B6) _ _ ⟨_,_,B5,B6,rfl,o5,o6,rfl⟩ n56 f56 rfl rfl rfl rfl (by simp) (λp' c' h5 SV=>?_);conv=>whnf
       refine SV _ (λh6 Zt=>?_);conv=>whnf
       rw[yU,if_neg hnr,if_neg dO,if_neg (by omega)];exact XE.trans sY Zt
def Kp (x y:Sx):Prop:=y.fs=x.fs/\y.f.pc=x.f.pc/\y.f.U=x.f.U
theorem Kp.refl (x:Sx):Kp x x:=⟨rfl,rfl,rfl⟩
theorem Kp.trans {x y z:Sx} (a:Kp x y) (b:Kp y z):Kp x z:=⟨b.1.trans a.1,b.2.1.trans a.2.1,b.2.2.trans a.2.2⟩
theorem uq (x:Sx):Kp x (aZ x).2:=by unfold aZ;split<;>exact⟨rfl,rfl,rfl⟩
theorem iZ (x:Sx):Kp x (aB x).2:=by unfold aB;split<;>exact uq x
theorem lS (x:Sx):Kp x (aD x).2:=by unfold aD;split<;>exact uq x
theorem kg (x:Sx) (v:Vl):Kp x (dM x v):=Et x v
theorem ny (x:Sx) (k:Int):Kp x (cQ x k):=by unfold cQ;split<;>exact⟨rfl,rfl,rfl⟩
theorem vE (u:aO) (x:Sx) (n k:Int):Kp x (bB u x n k):=by
 unfold bB;split
 ·exact Kp.refl x
 ·split
  ·exact ny x 2
  ·split<;>exact⟨rfl,rfl,rfl⟩
theorem CO (x:Sx) (o:Ob):Kp x (jQ x o):=by
 unfold jQ;split
 ·exact Kp.refl x
 ·exact(show Kp x {x with objs:=x.objs++[o]}from⟨rfl,rfl,rfl⟩).trans (kg _ _)
theorem ZC (x:Sx) (op:Int):Kp x (LB x op):=by
 unfold LB;simp only;split
 ·exact((iZ x).trans (iZ _)).trans (kg _ _)
 ·exact((iZ x).trans (iZ _)).trans (ny _ _)
theorem LN (x:Sx) (k:Int):Kp x (ox x k):=by
 unfold ox;split
 ·exact(iZ x).trans (CO _ _)
 ·exact((iZ x).trans (ny _ _)).trans (CO _ _)
theorem O2 (x:Sx):Kp x (tJ x):=by
 unfold tJ;simp only;split
 ·exact lS x
 ·split
  ·exact(lS x).trans (ny _ _)
  ·exact(lS x).trans (kg _ _)
theorem HT (u:aO) (x:Sx) (k:Int) (s:Bool):Kp x (vB u x k s):=by
 cases s
 ·have h1:=((iZ x).trans (lS _)).trans (vE u _ (aD (aB x).2).1 (-1-k));unfold vB;simp only[Bool.false_eq_true,if_false];split
  ·exact h1
  ·split
   ·exact h1.trans (ny _ _)
   ·exact h1.trans (kg _ _)
 ·have h1:=(((uq x).trans (iZ _)).trans (lS _)).trans (vE u _ (aD (aB (aZ x).2).2).1 (-1-k));unfold vB;simp only[if_true];split
  ·exact h1
  ·split
   ·exact h1.trans (ny _ _)
   ·exact h1.trans ⟨rfl,rfl,rfl⟩
theorem Ey (u:aO) (x:Sx) (k i:Int) (s:Bool):Kp x (qo u x k i s):=by
 cases s
 ·have h1:=(lS x).trans (vE u _ (aD x).1 k);unfold qo;simp only[Bool.false_eq_true,if_false];split
  ·exact h1
  ·exact h1.trans (kg _ _)
 ·have h1:=((uq x).trans (lS _)).trans (vE u _ (aD (aZ x).2).1 k);unfold qo;simp only[if_true];split
  ·exact h1
  ·exact h1.trans ⟨rfl,rfl,rfl⟩
theorem O3 (u:aO) (x:Sx) (k:Int):Kp x (tK u x k):=by
 unfold tK;simp only;split
 ·exact lS x
 ·split
  ·exact(lS x).trans (ny _ _)
  ·exact(lS x).trans (kg _ _)
theorem LO (x:Sx) (i:ez):Kp x (fS x i):=by
 unfold fS;split
 ·exact kg _ _
 split
 ·exact kg _ _
 split
 ·exact kg _ _
 split
 ·exact uq x
 split
 ·exact uq x
 split
 ·exact((uq x).trans (kg _ _)).trans (kg _ _)
 split
 ·exact ZC _ _
 split
 ·split<;>exact iZ x
 ·exact Kp.refl x
theorem O4 (u:aO) (x:Sx) (i:ez):Kp x (iO u x i):=by
 unfold iO;split
 ·exact CO _ _
 split
 ·exact LN _ _
 split
 ·exact O2 _
 split
 ·exact HT _ _ _ _
 split
 ·exact HT _ _ _ _
 split
 ·exact Ey _ _ _ _ _
 split
 ·exact Ey _ _ _ _ _
 split
 ·exact O3 _ _ _
 ·exact Kp.refl x
theorem LP (x:Sx) (i:ez):Kp x (fq x i).2:=by
 unfold fq;split
 ·exact(iZ x).trans (iZ _)
 split
 ·exact(iZ x).trans (iZ _)
 split
 ·exact lS x
 ·exact Kp.refl x
theorem O5 {h0 h:Heap} {bx:Nat} {us:List Value} {u:aO} {x:Sx} {B:List Nat} (hX:XS h0 h bx us u x B) (kind a b:Int) (hk:kind < 12\/19 < kind) :
  bI prog 134 [.pointer (some ⟨bx,0,none⟩),.agg #[.int .i64 kind,.int .i64 a,.int .i64 b]] h λ_ h'=>XR h0 h bx us u B (iO u x ⟨kind,a,b⟩) h':=by
 have hp:iO u x ⟨kind,a,b⟩=x:=by
  unfold iO;simp only;repeat rw[if_neg (by omega)]
 rw[hp];refine bZ au func134 RV Ql rfl ?_;conv=>whnf
 repeat' ((first|refine bH ?_)<;>conv=>whnf)
 exact⟨B,hX,Ev.refl _ _,rfl⟩
def fY (x:Sx):Sx:={x with f:={x.f with pc:=x.f.pc+1} }
def zk (u:aO) (x:Sx) (i:ez):bM × Bool × Int :=
 if i.kind=22 then xL x
 else if i.kind=20\/i.kind=21 then kH u x i
 else if i.kind=23 then (if (aD x).1=0 then (cQ (aD x).2 2).res else if (aD x).2.st=false then nr u (aD x).1 (aD x).2.CH (aD x).2.st (aD x).2.ft else (aD x).2.res)
 else if 8<=i.kind/\i.kind<=11 then (if (fq (fY x) i).1=true then ({ (fq (fY x) i).2 with f:={ (fq (fY x) i).2.f with pc:=i.a} }:Sx).res else (fq (fY x) i).2.res)
 else (fY (iO u (fS x i) i)).res
theorem mg.acP {u:aO} {x:Sx} (h:mg u x) (AW:x.f.pc < (aV u x.f.U).code.length):mg u (fY x):=by
 obtain⟨h1,h2,h3,⟨k1,k2,k3,k4,k5,k6⟩,h5⟩:=h;exact⟨h1,h2,h3,⟨k1,⟨by show 0<=x.f.pc+1;omega,by show x.f.pc+1<=((aV u x.f.U).code.length:Int);omega⟩,k3,k4,k5,k6⟩,h5⟩
structure ZD (u:aO) (x:Sx):Prop where
 ok:mg u x
 fs:∀ g∈x.fs,xH u x.objs.length g
 st:x.st=false
 ft:x.ft=0
 pc:x.f.pc < (aV u x.f.U).code.length
 said:x.said.length<=300
theorem SZ {h0 h:Heap} {bx:Nat} {us:List Value} {u:aO} {x:Sx} {B:List Nat} (hX:XS h0 h bx us u x B) (hs:ZD u x) (hu:cz u) (kind a b:Int) (hi:eU u (aV u x.f.U) ⟨kind,a,b⟩) :
  bI prog 68 [.pointer (some ⟨bx,0,none⟩),.agg #[.int .i64 kind,.int .i64 a,.int .i64 b]] h λ_ h'=>XE h0 h bx us u B (zk u x ⟨kind,a,b⟩) h':=by
 obtain⟨hs,qO,eB,xW,AW,QX⟩:=hs;have ok:=hu.1;have hmT:=hu.aV hs.iN.1;have lI:∀ m∈u.methods,m.code.length<=1000:=λm hm=>by have:=(hu.2.2.2.1 m hm).2.1.2.1;omega
 have Gh:=hs.iN.2.1;have adP:=lI _ (iV hs.iN.1);have Dm:zk u x ⟨kind,a,b⟩=if kind=22 then xL x
  else if kind=20\/kind=21 then kH u x ⟨kind,a,b⟩
  else if kind=23 then (if (aD x).1=0 then (cQ (aD x).2 2).res else if (aD x).2.st=false then nr u (aD x).1 (aD x).2.CH (aD x).2.st (aD x).2.ft else (aD x).2.res)
  else if 8<=kind/\kind<=11 then (if (fq (fY x) ⟨kind,a,b⟩).1=true then ({ (fq (fY x) ⟨kind,a,b⟩).2 with f:={ (fq (fY x) ⟨kind,a,b⟩).2.f with pc:=a} }:Sx).res else (fq (fY x) ⟨kind,a,b⟩).2.res)
  else (fY (iO u (fS x ⟨kind,a,b⟩) ⟨kind,a,b⟩)).res:=rfl
 generalize zk u x ⟨kind,a,b⟩=res at Dm ⊢;by_cases Fu:kind=22
 ·subst Fu;refine bZ au func68 RS IG rfl ?_;conv=>whnf
  refine aC (SP hX hs qO lI) (λv h1 hh=>?_);conv=>whnf
  rw[Dm];exact hh
 rw[if_neg Fu]at Dm;by_cases OS:kind=20
 ·subst OS;have:=(aI (p:=7) (q:=0) rfl).1 hi;simp[bz]at this;have ha:=this.1.1;refine bZ au func68 RS IG rfl ?_;conv=>whnf
  refine aC (Ja hX hs hu a b eB xW ha) (λv h1 hh=>?_);conv=>whnf
  rw[Dm];exact hh
 by_cases OT:kind=21
 ·subst OT;have:=(aI (p:=5) (q:=9) rfl).1 hi;simp[bz]at this;have ha:=this.1;refine bZ au func68 RS IG rfl ?_;conv=>whnf
  refine aC (Jc hX hs hu a b eB xW ha (λhf c hc Ac=>(wM hu ha.2 hf (c.toNat+1) (by omega) hc Ac).1)) (λv h1 hh=>?_);conv=>whnf
  rw[Dm];exact hh
 rw[if_neg (by omega)]at Dm;by_cases Lw:kind=23
 ·subst Lw;rw[if_pos rfl]at Dm;have kL:=hs.ref;have I6:=xI hX hs;have QZ:=lS x;have ud:(aD x).2.objs=x.objs:=(j9 x).2.1;generalize (aD x).1=n at *;generalize (aD x).2=y at *;refine bZ au func68 RS IG rfl ?_;conv=>whnf
  refine aC I6 (λv h1 hh=>?_);have hv:=hh.1;subst hv;refine hh.2.elim λB1 gS=>?_;have fR:=gS.1;conv=>whnf
  apply ax<;>intro g;all_goals conv=>whnf
  ·refine aC (kV fR 2) (λv h2 hh=>?_);conv=>whnf
   rw[Dm,if_pos g];exact XE.trans gS.2.1 hh.SO
  ·have r9:=fR.me.1;refine ld r9 ?_;conv=>whnf
   apply cJ<;>intro g2;all_goals conv=>whnf
   ·have hn:0 < n/\n<=y.objs.length:=by rw[ud];omega
    have hO:=kL.1.Aj _ (iY (objs:=y.objs) hn.1 hn.2);have LG : -2<=(aF y.objs n).cls/\(aF y.objs n).cls < u.J.length:=by
     rcases hO.2 with ⟨h2,_⟩|⟨h2,h3,_⟩
     ·have:=ok.1;omega
     ·omega
    have hlen:=kL.1.len;have Eh:=kL.1.nf;have gz:∀ g∈y.CH.ag,0<=g.U/\g.U < u.methods.length:=λg hg=>by
     have ZE:g∈y.fs++[y.f]:=hg;simp only[u_,V_]at ZE;rcases ZE with ZE|rfl
     ·rw[QZ.1]at ZE;exact(qO g ZE).1
     ·exact kL.1.iN.1
    have Gv:∀ m∈u.methods,∀ c∈m.catches,(0<=c.hi/\c.hi<=1000)/\0<=c.cls:=λm hm c hc=>by
     have AZ:=hu.2.2.2.1 m hm;have h1:=AZ.2.2.2 c hc;have h2:=AZ.2.1.2.1;obtain⟨q1,q2,q3,_⟩:=h1;omega
    refine aC (CN fR ok n hn (show y.objs.length<=1000 by omega) (show(y.fs++[y.f]).length<=1000 by simp;omega) LG gz Gv) (λv h2 hh=>?_);conv=>whnf
    rw[Dm,if_neg g,if_pos g2];exact XE.trans gS.2.1 hh
   ·rw[Dm,if_neg g,if_neg (by rw[g2];simp)];exact⟨B1,fR,gS.2.1⟩
 rw[if_neg Lw]at Dm;by_cases kj:8<=kind/\kind<=11
 ·rw[if_pos kj]at Dm;obtain⟨bf,ht⟩:=hX.tp;have jL:=vz hX ht hs.CK;have hz:=hX.kr ht;have hsb:=hs.acP AW;have QZ:=LP (fY x) ⟨kind,a,b⟩;refine bZ au func68 RS IG rfl ?_;conv=>whnf
  refine cM Fu ?_;conv=>whnf
  repeat' ((first|refine bH ?_)<;>conv=>whnf)
  refine aj (dP _ _ _ _) ?_;conv=>whnf
  refine cx ?_;conv=>whnf
  refine aj jL ?_;conv=>whnf
  refine ld hz.1 ?_;conv=>whnf
  refine ah ?_;conv=>whnf
  refine hz.2 _ _ (λh1 hh=>?_);refine hh.elim λB1 gS=>?_;have fR:XS h0 h1 bx us u (fY x) B1:=gS.1;conv=>whnf
  refine aC (O1 fR hsb kind a b) (λv h2 hh=>?_);have hv:=hh.1;subst hv;refine hh.2.elim λB2 iD=>?_;have pJ:=iD.1;have iE:=gS.2.1.trans iD.2.1;have LJ:Tp h2 bx (fq (fY x) ⟨kind,a,b⟩).2.fs.length bf:=by
   obtain⟨c0,q0⟩:=ht;exact⟨c0,by rw[iD.2.2,gS.2.2,QZ.1];exact q0⟩
  have Up:=pJ.kr LJ;have Au:(fq (fY x) ⟨kind,a,b⟩).2.fs.length=x.fs.length:=by rw[QZ.1];rfl
  rw[Au]at Up;conv=>whnf
  apply eK<;>intro g;all_goals conv=>whnf
  ·refine Up.2 _ _ (λh3 kB=>?_);conv=>whnf
   rw[Dm,if_pos g];exact XE.trans iE kB.SO
  ·rw[Dm,if_neg (by rw[g];simp)];exact⟨B2,pJ,iE⟩
 rw[if_neg kj]at Dm;have NF:SM u x ⟨kind,a,b⟩:=by
  refine⟨λhk=>?_,λhk=>?_,hi.wO⟩
  ·simp only at hk;have hl:=hs.iN.2.2.1;rcases hk with rfl|rfl;all_goals
    have:=(aI (p:=2) (q:=0) rfl).1 hi;simp[bz]at this;show 0<=a/\a < (x.f.locals.length:Int);omega
  ·simp only at hk;rcases hk with rfl|rfl|rfl;all_goals
    have:=(aI (p:=6) (q:=0) rfl).1 hi;simp[bz]at this;exact this.1
 have ZF:∀(h1:Heap) (B1:List Nat),XS h0 h1 bx us u (fS x ⟨kind,a,b⟩) B1->bI prog 134 [.pointer (some ⟨bx,0,none⟩),.agg #[.int .i64 kind,.int .i64 a,.int .i64 b]] h1 λ_ h'=>XR h0 h1 bx us u B1 (iO u (fS x ⟨kind,a,b⟩) ⟨kind,a,b⟩) h':=by
  intro h1 B1 fR;by_cases hk:kind < 12\/19 < kind
  ·exact O5 fR kind a b hk
  ·have hp:fS x ⟨kind,a,b⟩=x:=by
    unfold fS;simp only;repeat rw[if_neg (by omega)]
   rw[hp]at fR ⊢;exact SN fR hs ok kind a b NF
 have QZ:=(LO x ⟨kind,a,b⟩).trans (O4 u (fS x ⟨kind,a,b⟩) ⟨kind,a,b⟩);refine bZ au func68 RS IG rfl ?_;conv=>whnf
 refine cM Fu ?_;conv=>whnf
 repeat' ((first|refine bH ?_)<;>conv=>whnf)
 refine aj (dP _ _ _ _) ?_;conv=>whnf
 refine bH ?_;conv=>whnf
 refine aC (O0 hX hs kind a b NF (by omega)) (λv h1 hh=>?_);refine hh.elim λB1 gS=>?_;conv=>whnf
 refine aC (ZF h1 B1 gS.1) (λv h2 hh=>?_);refine hh.elim λB2 iD=>?_;have pJ:=iD.1;have iE:=gS.2.1.trans iD.2.1;generalize iO u (fS x ⟨kind,a,b⟩) ⟨kind,a,b⟩=y at pJ QZ Dm;refine pJ.tp.elim λbf ht=>?_;have pI:y.fs.length<=1000:=by rw[QZ.1];exact hs.CK
 have hz:=pJ.kr ht;have hyp:=QZ.2.1;conv=>whnf
 refine aj (vz pJ ht pI) ?_;conv=>whnf
 refine ld hz.1 ?_;conv=>whnf
 refine ah ?_;conv=>whnf
 refine hz.2 _ _ (λh3 kB=>?_);conv=>whnf
 rw[Dm];exact XE.trans iE kB.SO
theorem zl {el:TypeId} {h h1:Heap} {b:Nat} {t:TypeId} {l:List Vl} {vs:List Value} {m:Nat} {K:Value->Heap->Prop} (hl:h.le h1) (hg:h1 b=some (.cells #[] t (0,0))) (hb:h b=none) (hv:vs=(l.map bR).flatten) (hm:m=(l.map bR).length) (hs:(l.map bR).length<=1000000)
  (hk:∀ p' c' h2 B',h.le h2->cj h2 (.slice p' (l.map bR).length c') l B'->(∀ b∈B',h b=none)->K (.slice p' (l.map bR).length c') h2):App 16 2 [.bool false,.int .i64 0] el h1 (some ⟨b,0,none⟩) 0 0 m vs K:=by
 refine dA (h0:=h) (xs:=[]) (ys:=l.map bR) (B:=[b]) (dX hg) (by simpa using hb) hl hv hm (λy hy=>by obtain⟨w,_,rfl⟩:=List.mem_map.1 hy;rfl) (by rw[hv];exact jM l) rfl (by simp at hs ⊢;omega) (by simp at hs ⊢;omega) ?_;intro v' h2 B2 k1 k2 k3 k4 k5;rw[List.nil_append]at k2;obtain⟨p',c',rfl,_⟩:=cr.form k2;exact hk p' c' h2 B2 k1 k2 k3
theorem Bm {el:TypeId} {h h1:Heap} {b:Nat} {t:TypeId} {l:List Int} {vs:List Value} {m:Nat} {K:Value->Heap->Prop} (hl:h.le h1) (hg:h1 b=some (.cells #[] t (0,0))) (hb:h b=none) (hv:vs=(l.map bN).flatten) (hm:m=(l.map bN).length) (hs:(l.map bN).length<=1000000)
  (hk:∀ p' c' h2 B',h.le h2->dR h2 (.slice p' (l.map bN).length c') l B'->(∀ b∈B',h b=none)->K (.slice p' (l.map bN).length c') h2):App 8 1 [.int .i64 0] el h1 (some ⟨b,0,none⟩) 0 0 m vs K:=by
 refine dA (h0:=h) (xs:=[]) (ys:=l.map bN) (B:=[b]) (dX hg) (by simpa using hb) hl hv hm (λy hy=>by obtain⟨w,_,rfl⟩:=List.mem_map.1 hy;rfl) (by rw[hv,ek];exact dS l) rfl (by simp at hs ⊢;omega) (by simp at hs ⊢;omega) ?_;intro v' h2 B2 k1 k2 k3 k4 k5;rw[List.nil_append]at k2;obtain⟨p',c',rfl,_⟩:=cr.form k2;exact hk p' c' h2 B2 k1 k2 k3
theorem Acc.Gx {α:Type} {R:Heap->List Value->α->List Nat->Prop} {sz:Nat} {h0 h:Heap} {A:List Nat} {b:Nat} {t:TypeId} (hl:h0.le h) (hb:h0 b=none) (hg:h b=some (.cells #[] t (0,0))) (hA:b ∉ A) (nd:Nd A) (fr:∀ b∈A,h0 b=none) (At:∀ b∈A,∃ o,h b=some o):Acc R sz h0 h (.slice (some ⟨b,0,none⟩) 0 0) [] [b] A :=
 ⟨hl,⟨[],[b],[],dX hg,.nil,rfl⟩,λa=>by
  simp only[Y_,X_,List.count_nil];by_cases ha:b=a
  ·subst ha;simp[List.count_eq_zero.2 hA]
  ·simp[ha];exact nd a,λx hx=>by
  rcases u_.1 hx with hx|hx
  ·rw[V_.1 hx];exact hb
  ·exact fr x hx,At⟩
theorem wQ (mc:List Value) (M:bM) (h:Heap) (hr:wI h mc M) :
  bI prog 31 [.agg ⟨mc⟩] h λv h'=>h.le h'/\∃ D9 B,v=.agg ⟨D9⟩/\gN h' D9 M B/\Nd B/\∀ b∈B,h b=none:=by
 obtain⟨vo,vf,vs,rfl,s1,s2,ho,hf,hs⟩:=hr;obtain⟨po,co,rfl,_,_⟩:=ho.len;obtain⟨pf,cf,rfl,_,_⟩:=hf.len;have QA:=hs;obtain⟨kL,_,ps,cs,rfl,_⟩:=hs;refine bZ au func31 F31 abb rfl ?_;unfold ay;conv=>whnf
 refine ec [] rfl (λb0 h1 tZ e0 l1 g0=>?_);conv=>whnf
 refine fh [1,2,3,4] [1,2,3] (λs:Nat × Heap × Option Addr × Nat × List Nat=>s.1<=M.objs.length/\Acc mA 2 h s.2.1 (.slice s.2.2.1 s.1 s.2.2.2.1) (M.objs.take s.1) s.2.2.2.2 []) (λs=>M.objs.length-s.1)
  (λs=>([.l 1 0,.l 2 0,.l 3 0,.v (.int .i64 s.1)],
   [some (ay (.slice po M.objs.length co) (.slice pf M.ag.length cf) (.slice ps (M.said.map bN).length cs) M),some [.slice none 0 0,.slice none 0 0,.slice none 0 0,.int .i64 0,.int .i64 0,.bool false,.int .i64 0],
    some (ay (.slice s.2.2.1 s.1 s.2.2.2.1) (.slice pf M.ag.length cf) (.slice ps (M.said.map bN).length cs) M)],s.2.1))
  (0,h1,some ⟨b0,0,none⟩,0,[b0]) ⟨by omega,Acc.Gx l1 tZ g0 (by simp) (λ_=>by simp) (by simp) (by simp)⟩ rfl ?_
 rintro⟨i,h2,p,c,B⟩ ⟨hi,ac⟩;simp only at hi ac ⊢;unfold ay;conv=>whnf
 apply ax<;>intro g;all_goals conv=>whnf
 ·have bV:i < M.objs.length:=by omega
  have e:=(ho.le ac.le (λ_ _ hx=>hx.le ac.le)).get bV;obtain⟨bb,off,xs,hq,e1,vv,rfl,e2⟩:=e;have KV:=e2;obtain⟨e2l,_,pv,cv,rfl,_⟩:=e2;have r0:=aE e1 (i:=0) rfl;have r1:=aE e1 (i:=1) rfl;repeat' ((first|exact trivial|apply T_|refine aq ?_|refine aG hq ?_|refine ld r0 ?_|refine ld r1 ?_|refine ld (aX l3 r0) ?_|refine ld (aX l3 r1) ?_|refine ld (aX l4 r0) ?_|refine ec [] rfl (λb1 h3 s7 ee3 l3 g3=>?_)|refine mZ.OF (KV.le l3) ?_|refine zl l3 g3 s7 rfl rfl e2l (λp' c' h4 B4 l4 o4 n4=>?_))<;>conv=>whnf)
  all_goals
   refine vg jP Ad (a:=M.objs[i]) (Bi:=B4) ac l4 ⟨_,rfl,o4⟩ o4.nd n4 rfl rfl rfl rfl (by simp;omega) (by simp;omega) ?_;intro p' c' h5 B' HJ hk;have dj:(M.objs.take i).length=i:=by simp;omega
   rw[List.take_append_getElem bV,dj]at HJ;rw[dj];conv=>whnf
   refine ah ?_;conv=>whnf
   exact dm (i+1,h5,p',c',B') ⟨by omega,HJ⟩ (by simp only;omega) rfl
 ·have mB:i=M.objs.length:=by omega
  subst mB;rw[List.take_length]at ac;have hA:Nd B:=by have:=ac.nd;simpa using this
  have hBf:∀ b∈B,h b=none:=λb hb=>ac.fr b (by simp[hb]);have ZG:=ac.own.in Ad;refine ec [] rfl (λb5 h6 xX ee6 l6 g6=>?_);conv=>whnf
  have mz:h b5=none:=by
   cases hh:h b5 with
   | none=>rfl
   | some o=>rw[ac.le b5 o hh]at xX;cases xX
  have acQ:b5 ∉ B:=λhx=>by obtain⟨o,ho⟩:=ZG b5 hx;rw[xX]at ho;cases ho
  refine fh [1,2,3,5] [1,2,3] (λs:Nat × Heap × Option Addr × Nat × List Nat=>s.1<=M.ag.length/\Acc qf 4 h s.2.1 (.slice s.2.2.1 s.1 s.2.2.2.1) (M.ag.take s.1) s.2.2.2.2 B/\eN mA 2 s.2.1 (.slice p M.objs.length c) M.objs B) (λs=>M.ag.length-s.1)
   (λs=>([.l 1 0,.l 2 0,.l 3 0,.v (.int .i64 s.1)],
    [some (ay (.slice po M.objs.length co) (.slice pf M.ag.length cf) (.slice ps (M.said.map bN).length cs) M),some [.slice none 0 0,.slice none 0 0,.slice none 0 0,.int .i64 0,.int .i64 0,.bool false,.int .i64 0],
     some (ay (.slice p M.objs.length c) (.slice s.2.2.1 s.1 s.2.2.2.1) (.slice ps (M.said.map bN).length cs) M)],s.2.1))
   (0,h6,some ⟨b5,0,none⟩,0,[b5]) ⟨by omega,Acc.Gx (y_ ac.le l6) mz g6 acQ hA hBf (λb hb=>by obtain⟨o,ho⟩:=ZG b hb;exact⟨o,l6 b o ho⟩),ac.own.aJ jP (cR.of_le l6 _)⟩ rfl ?_
  rintro⟨i,h3,p2,c2,B2⟩ ⟨hi,yT,oo⟩;simp only at hi yT oo ⊢;unfold ay;conv=>whnf
  apply ax<;>intro g;all_goals conv=>whnf
  ·have bV:i < M.ag.length:=by omega
   have e:=(hf.le yT.le (λ_ _ hx=>hx.le yT.le)).get bV;obtain⟨bb,off,xs,hq,e1,v1,v2,rfl,e2,e3⟩:=e;have KV:=e2;have e30:=e3;obtain⟨e2l,_,pv,cv,rfl,_⟩:=e2;obtain⟨e3l,_,pw,cw,rfl,_⟩:=e3;refine aq ?_;conv=>whnf
   refine aG hq ?_;conv=>whnf
   refine dJ e1 ?_;conv=>whnf
   refine ec [] rfl (λb7 h7 Ez ee7 l7 g7=>?_);conv=>whnf
   refine mZ.OF (KV.le l7) ?_;conv=>whnf
   refine zl l7 g7 Ez rfl rfl e2l (λp8 c8 h8 B8 l8 o8 n8=>?_);conv=>whnf
   refine ec [] rfl (λb9 h9 hb9 ee9 l9 g9=>?_);conv=>whnf
   refine mZ.OF (e30.le (y_ l8 l9)) ?_;conv=>whnf
   refine zl l9 g9 hb9 rfl rfl e3l (λp10 c10 iu O6 Fw ZH Ur=>?_);conv=>whnf
   have nF:Nd (B8++O6):=by
    intro a;have e1:=o8.nd a;have e2:=ZH.nd a;simp only[Y_];by_cases hm:a∈O6
    ·have:B8.count a=0:=by
      refine List.count_eq_zero.2 λhx=>?_;obtain⟨o,ho⟩:=o8.in a hx;rw[Ur a hm]at ho;cases ho
     omega
    ·have:=List.count_eq_zero.2 hm;omega
   have fF:∀ b∈B8++O6,h3 b=none:=by
    intro b hb;rcases u_.1 hb with hb|hb
    ·exact n8 b hb
    ·cases hh:h3 b with
     | none=>rfl
     | some o=>have:=Ur b hb;rw[l8 b o hh]at this;cases this
   refine vg mY Ui (a:=M.ag[i]) (Bi:=B8++O6) yT (y_ l8 Fw) ⟨_,_,B8,O6,rfl,o8.aJ (cR.of_le Fw _),ZH,rfl⟩ nF fF rfl rfl rfl rfl (by simp;omega) (by simp;omega) ?_;intro p' c' h5 B' HJ hk;have dj:(M.ag.take i).length=i:=by simp;omega
   rw[List.take_append_getElem bV,dj]at HJ;rw[dj];conv=>whnf
   refine ah ?_;conv=>whnf
   exact dm (i+1,h5,p',c',B') ⟨by omega,HJ,oo.aJ jP hk⟩ (by simp only;omega) rfl
  ·have mB:i=M.ag.length:=by omega
   subst mB;rw[List.take_length]at yT;refine ec [] rfl (λb9 h9 hb9 ee9 l9 g9=>?_);conv=>whnf
   refine mZ.OF (QA.le (y_ yT.le l9)) ?_;conv=>whnf
   refine Bm l9 g9 hb9 rfl rfl kL (λp10 c10 iu O6 Fw ZH Ur=>?_);conv=>whnf
   have yS:=yT.own.in Ui;refine⟨y_ yT.le Fw,_,B++B2++O6,rfl,⟨_,_,_,B,B2,O6,rfl,oo.aJ jP (cR.of_le Fw _),yT.own.aJ mY (cR.of_le Fw _),ZH,rfl⟩,?_,λb hb=>?_⟩
   ·intro a;have e1:=yT.nd a;have e2:=ZH.nd a;simp only[Y_]at e1 ⊢;by_cases hm:a∈O6
    ·have:B2.count a=0:=List.count_eq_zero.2 λhx=>by obtain⟨o,ho⟩:=yS a hx;rw[Ur a hm]at ho;cases ho
     have:B.count a=0:=List.count_eq_zero.2 λhx=>by obtain⟨o,ho⟩:=yT.At a hx;rw[Ur a hm]at ho;cases ho
     omega
    ·have:=List.count_eq_zero.2 hm;omega
   ·simp only[u_]at hb;rcases hb with (hb|hb)|hb
    ·exact hBf b hb
    ·exact yT.fr b (by simp[hb])
    ·cases hh:h b with
     | none=>rfl
     | some o=>have:=Ur b hb;rw[yT.le b o hh]at this;cases this
def Mon (x y:Sx):Prop:=x.st=true->y.st=true
theorem HU (x:Sx):Mon x (aZ x).2:=λh=>by unfold aZ;split;rfl;exact h
theorem nB (x:Sx):Mon x (aB x).2:=λh=>by unfold aB;split;rfl;exact HU x h
theorem nT (x:Sx):Mon x (aD x).2:=λh=>by unfold aD;split;exact HU x h;rfl
theorem rJ (x:Sx) (v:Vl):Mon x (dM x v):=λh=>by unfold dM;split;rfl;exact h
theorem sO (x:Sx) (k:Int):Mon x (cQ x k):=λh=>by unfold cQ;split;exact h;exact h
theorem Bn (u:aO) (x:Sx) (n k:Int):Mon x (bB u x n k):=λh=>by
 unfold bB;rw[if_pos (.inl h)];exact h
theorem LQ (x:Sx) (o:Ob):Mon x (jQ x o):=λh=>by unfold jQ;rw[if_pos (.inl h)];exact h
theorem rK {x:Sx} (h:x.f.stack=[]):(aZ x).2.st=true:=by rw[vC h]
theorem lD {x:Sx} (h:x.f.stack=[]):(aB x).2.st=true:=by
 unfold aB;split;rfl;exact rK h
theorem gQ {x:Sx} {l:List Vl} {v:Vl} (h:x.f.stack=l++[v]) (hv:v.ref=true):(aB x).2.st=true:=by
 unfold aB;rw[gA h];simp[hv]
theorem jd {x:Sx} {l:List Vl} {v:Vl} (h:x.f.stack=l++[v]) (hv:v.ref=false):aB x=(v.n,{x with f:={x.f with stack:=l} }):=by
 unfold aB;rw[gA h];simp[hv]
theorem nU {x:Sx} (h:x.f.stack=[]):(aD x).2.st=true:=by
 unfold aD;split;exact rK h;rfl
theorem nV {x:Sx} {l:List Vl} {v:Vl} (h:x.f.stack=l++[v]) (hv:v.ref=false):(aD x).2.st=true:=by
 unfold aD;rw[gA h];simp[hv]
theorem rL {x:Sx} {l:List Vl} {v:Vl} (h:x.f.stack=l++[v]) (hv:v.ref=true):aD x=(v.n,{x with f:={x.f with stack:=l} }):=by
 unfold aD;rw[gA h];simp[hv]
def Rl (r:Except Int bM) (s:bM × Bool × Int):Prop:=match r with
 | .ok M'=>s=(M',false,0)
 | .error k=>if k=0 then s.2.1=true else s.2.1=false/\s.2.2=k
theorem Rl.stuck {s:bM × Bool × Int} (h:s.2.1=true):Rl (.error 0) s:=by simp[Rl,h]
theorem Rl.LR {s:bM × Bool × Int} {k:Int} (hk:k≠0) (h1:s.2.1=false) (h2:s.2.2=k):Rl (.error k) s:=by simp[Rl,hk,h1,h2]
theorem Rl.ok {s:bM × Bool × Int} {M':bM} (h:s=(M',false,0)):Rl (.ok M') s:=h
theorem EA {u:aO} {x:ez} {cP:List Vl} (h:di u x=some []):ee u x cP=some ([],cP):=by simp[ee,h,jD]
theorem nC {u:aO} {x:ez} {w:Int} (h:di u x=some [w]):ee u x []=none:=by simp[ee,h]
theorem rM {u:aO} {x:ez} {w:Int} {l:List Vl} {v:Vl} (h:di u x=some [w]):ee u x (l++[v])=if jD [w] [v]=true then some ([v],l)else none:=by simp[ee,h]
theorem rN {u:aO} {x:ez} {w1 w2:Int} {cP:List Vl} (h:di u x=some [w1,w2]) (hl:cP.length < 2):ee u x cP=none:=by
 simp[ee,h];omega
theorem HV {u:aO} {x:ez} {w1 w2:Int} {l:List Vl} {a b:Vl} (h:di u x=some [w1,w2]):ee u x (l++[a,b])=if jD [w1,w2] [a,b]=true then some ([a,b],l)else none:=by
 simp[ee,h];intro hx;omega
theorem Gy {u:aO} {x:ez} {w1 w2 w3:Int} {cP:List Vl} (h:di u x=some [w1,w2,w3]) (hl:cP.length < 3):ee u x cP=none:=by
 simp[ee,h];omega
theorem ZI {u:aO} {x:ez} {w1 w2 w3:Int} {l:List Vl} {a b c:Vl} (h:di u x=some [w1,w2,w3]):ee u x (l++[a,b,c])=if jD [w1,w2,w3] [a,b,c]=true then some ([a,b,c],l)else none:=by
 simp[ee,h];intro hx;omega
theorem jl (s:List Vl):s=[]\/∃ l v,s=l++[v]:=by
 rcases List.eq_nil_or_concat s with h|⟨l,v,h⟩
 ·exact .inl h
 ·exact .inr ⟨l,v,by simpa using h⟩
def aU (M:bM) (fs:List bQ) (f:bQ):Sx:=⟨M.objs,fs,f,M.said,M.steps,M.fin,M.out,false,0⟩
def th (M:bM) (fs:List bQ) (f:bQ) (r:Sk) (a:Int):Except Int bM:=match r with
 | .error e=>.error e
 | .ok (objs,g,said,kq)=>.ok {M with objs:=objs,said:=said,ag:=fs++[{g with pc:=if kq then a else f.pc+1}]}
def rO (u:aO) (x:Sx) (i:ez):bM × Bool × Int:=(fY (iO u (fS x i) i)).res
theorem mE {M:bM} {fs:List bQ} {f:bQ} {x:Sx} {v:Vl} {a:Int} {cP:List Vl} (hx:x=aU M fs {f with stack:=cP}):Rl (th M fs f (fA M.objs {f with stack:=cP} M.said v) a) (fY (dM x v)).res:=by
 subst hx;by_cases h:cP.length < 4
 ·rw[oR h,rH h];exact Rl.ok rfl
 ·rw[mL (by show 4<=cP.length;omega),oU (by show 4<=cP.length;omega)];exact Rl.stuck rfl
theorem LS {x:Sx} {k a b:Int} (h:12<=k/\k<=19):fS x ⟨k,a,b⟩=x:=by
 unfold fS;simp only;repeat rw[if_neg (by omega)]
theorem O7 {u:aO} {x:Sx} {k a b:Int} (h:k < 12\/19 < k):iO u x ⟨k,a,b⟩=x:=by
 unfold iO;simp only;repeat rw[if_neg (by omega)]
theorem LU (u:aO) (M:bM) (fs:List bQ) (f:bQ) (k a b:Int) (hk:k=1\/k=2\/k=3\/k=4\/k=5\/k=6\/k=7\/k=24) :
  Rl (match ee u ⟨k,a,b⟩ f.stack with
   | none=>.error 0
   | some (aR,rest)=>th M fs f (gG u ⟨k,a,b⟩ aR M.objs {f with stack:=rest} M.said) a) (rO u (aU M fs f) ⟨k,a,b⟩):=by
 have Dl:∀ x:Sx,iO u x ⟨k,a,b⟩=x:=λx=>O7 (by omega);unfold rO;rw[Dl];obtain⟨U,pc,locals,cP⟩:=f;simp only;rcases hk with rfl|rfl|rfl|rfl|rfl|rfl|rfl|rfl
 ·rw[EA rfl];exact mE (f:=⟨U,pc,locals,cP⟩) rfl
 ·rw[EA rfl];exact mE (f:=⟨U,pc,locals,cP⟩) rfl
 ·rw[EA rfl];exact mE (f:=⟨U,pc,locals,cP⟩) rfl
 ·rcases jl cP with rfl|⟨l,v,rfl⟩
  ·rw[nC rfl];exact Rl.stuck (rK (x:=aU M fs ⟨U,pc,locals,[]⟩) rfl)
  ·rw[rM rfl];have hp:=gA (x:=aU M fs ⟨U,pc,locals,l++[v]⟩) rfl;have e:fS (aU M fs ⟨U,pc,locals,l++[v]⟩) ⟨4,a,b⟩=aU M fs ⟨U,pc,locals.set a.toNat v,l⟩:=by
    show({ (aZ _).2 with f:=_}:Sx)=_;rw[hp];rfl
   rw[e];exact Rl.ok rfl
 ·rcases jl cP with rfl|⟨l,v,rfl⟩
  ·rw[nC rfl];exact Rl.stuck (rK (x:=aU M fs ⟨U,pc,locals,[]⟩) rfl)
  ·rw[rM rfl];have hp:=gA (x:=aU M fs ⟨U,pc,locals,l++[v]⟩) rfl;have e:fS (aU M fs ⟨U,pc,locals,l++[v]⟩) ⟨5,a,b⟩=aU M fs ⟨U,pc,locals,l⟩:=by
    show(aZ _).2=_;rw[hp];rfl
   rw[e];exact Rl.ok rfl
 ·rcases jl cP with rfl|⟨l,v,rfl⟩
  ·rw[nC rfl];exact Rl.stuck (rJ _ (aZ (aU M fs ⟨U,pc,locals,[]⟩)).1 (rJ _ (aZ (aU M fs ⟨U,pc,locals,[]⟩)).1 (rK (x:=aU M fs ⟨U,pc,locals,[]⟩) rfl)))
  ·rw[rM rfl];have hp:=gA (x:=aU M fs ⟨U,pc,locals,l++[v]⟩) rfl;have e:fS (aU M fs ⟨U,pc,locals,l++[v]⟩) ⟨6,a,b⟩=dM (dM (aU M fs ⟨U,pc,locals,l⟩) v) v:=by
    show dM (dM (aZ _).2 (aZ _).1) (aZ _).1=_;rw[hp];rfl
   rw[e];show Rl (th M fs _ (match dH M.objs ⟨U,pc,locals,l⟩ v with
    | .ok (_,g)=>fA M.objs g M.said v
    | .error e=>.error e) a) _
   by_cases h:l.length < 4
   ·rw[rH (x:=aU M fs ⟨U,pc,locals,l⟩) h];have Y7:dH M.objs ⟨U,pc,locals,l⟩ v=.ok (M.objs,⟨U,pc,locals,l++[v]⟩):=if_pos h;rw[Y7];exact mE (f:=⟨U,pc,locals,l++[v]⟩) rfl
   ·have Y7:dH M.objs ⟨U,pc,locals,l⟩ v=.error 0:=if_neg h;rw[Y7];refine Rl.stuck (rJ _ _ ?_);rw[oU (by show 4<=l.length;omega)]
 ·have e:fS (aU M fs ⟨U,pc,locals,cP⟩) ⟨7,a,b⟩=LB (aU M fs ⟨U,pc,locals,cP⟩) a:=rfl;rw[e];have bad:∀ x:Sx,(aB (aB x).2).2.st=true->(LB x a).st=true:=λx h=>by
   unfold LB;simp only;split
   ·exact rJ _ _ h
   ·exact sO _ _ h
  rcases jl cP with rfl|⟨l1,v1,rfl⟩
  ·rw[rN rfl (by simp)];exact Rl.stuck (bad _ (nB _ (lD (x:=aU M fs ⟨U,pc,locals,[]⟩) rfl)))
  ·rcases jl l1 with rfl|⟨l,v0,rfl⟩
   ·rw[rN rfl (by simp)];refine Rl.stuck (bad _ ?_);cases hv:v1.ref with
    | true=>exact nB _ (gQ (x:=aU M fs ⟨U,pc,locals,[]++[v1]⟩) rfl hv)
    | false=>rw[jd (x:=aU M fs ⟨U,pc,locals,[]++[v1]⟩) rfl hv];exact lD rfl
   ·rw[List.append_assoc];have LV:l++([v0]++[v1])=l++[v0,v1]:=rfl;rw[LV,HV rfl];have eB:(aU M fs ⟨U,pc,locals,l++[v0,v1]⟩).f.stack=(l++[v0])++[v1]:=by simp[aU]
    cases hv:v1.ref with
    | true =>
     rw[if_neg (by simp[jD,hv])];exact Rl.stuck (bad _ (nB _ (gQ eB hv)))
    | false =>
     cases hw:v0.ref with
     | true =>
      rw[if_neg (by simp[jD,hw])];refine Rl.stuck (bad _ ?_);rw[jd eB hv];exact gQ (l:=l) (v:=v0) rfl hw
     | false =>
      rw[if_pos (by simp[jD,hv,hw])];have e1:=jd eB hv;have e2:aB (aB (aU M fs ⟨U,pc,locals,l++[v0,v1]⟩)).2=(v0.n,aU M fs ⟨U,pc,locals,l⟩):=by
       rw[e1];exact jd (l:=l) (v:=v0) rfl hw
      have e3:LB (aU M fs ⟨U,pc,locals,l++[v0,v1]⟩) a=if (iJ a v0.n v1.n).2=true then dM (aU M fs ⟨U,pc,locals,l⟩) ⟨false,(iJ a v0.n v1.n).1⟩else cQ (aU M fs ⟨U,pc,locals,l⟩) 1:=by
       unfold LB;simp only[e2];rw[e1]
      rw[e3];show Rl (th M fs _ (if (iJ a v0.n v1.n).2 then fA M.objs ⟨U,pc,locals,l⟩ M.said ⟨false,(iJ a v0.n v1.n).1⟩else .error 1) a) _;by_cases hd:(iJ a v0.n v1.n).2=true
      ·rw[if_pos hd,if_pos hd];exact mE (f:=⟨U,pc,locals,l++[v0,v1]⟩) rfl
      ·rw[if_neg hd,if_neg hd];exact Rl.LR (by decide) rfl rfl
 ·have e:fS (aU M fs ⟨U,pc,locals,cP⟩) ⟨24,a,b⟩=if (aB (aU M fs ⟨U,pc,locals,cP⟩)).2.st=false then { (aB (aU M fs ⟨U,pc,locals,cP⟩)).2 with said:=(aB (aU M fs ⟨U,pc,locals,cP⟩)).2.said++[(aB (aU M fs ⟨U,pc,locals,cP⟩)).1]}else (aB (aU M fs ⟨U,pc,locals,cP⟩)).2:=rfl
  rw[e];rcases jl cP with rfl|⟨l,v,rfl⟩
  ·have h:=lD (x:=aU M fs ⟨U,pc,locals,[]⟩) rfl;rw[nC rfl,if_neg (by rw[h];simp)];exact Rl.stuck h
  ·rw[rM rfl];cases hv:v.ref with
   | true =>
    have h:=gQ (x:=aU M fs ⟨U,pc,locals,l++[v]⟩) rfl hv;rw[if_neg (by simp[jD,hv]),if_neg (by rw[h];simp)];exact Rl.stuck h
   | false =>
    rw[if_pos (by simp[jD,hv]),jd (x:=aU M fs ⟨U,pc,locals,l++[v]⟩) rfl hv];exact Rl.ok rfl
end Go.Proofs
