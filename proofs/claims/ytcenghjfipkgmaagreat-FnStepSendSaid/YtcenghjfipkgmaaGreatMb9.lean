/- Lemmas. -/
import Derived.Test.YtcenghjfipkgmaaGreatMb8
set_option linter.unusedSimpArgs false
set_option linter.unusedVariables false
namespace Go.Proofs
open Go.Vc Go.Proofs.Tryz
set_option maxRecDepth 100000
set_option maxHeartbeats 4000000
def HdR (h:Heap) (rec:List Value) (m:cL):Prop:=∃ a,rec=eR m.cls m.fG a m.out m.locals/\tA h a m.args/\m.code=[]/\m.aQ=[]/\m.catches=[]
theorem tA.le {h h':Heap} (hl:h.le h') {a:Value} {l:List Int} (hz:tA h a l):tA h' a l:=by
 obtain⟨B,hz⟩:=hz;exact⟨B,hz.aJ (cR.of_le hl _)⟩
theorem tA.ints {h:Heap} {a:Value} {l:List Int} (hz:tA h a l) (hl:l.length<=1000):dy h a l:=by
 obtain⟨B,hz⟩:=hz;rcases hz with ⟨rfl,rfl,rfl⟩|⟨b,r,t,rfl,hb,hi,rfl⟩
 ·exact iP _ _ _
 ·refine nE (rest:=r.map (Value.int .i64)) (t:=t) (fz:=(0,0)) ?_ (by omega) (by simp) (λt ht=>hi t (by simp[ht]));rw[<-List.map_append];exact hb
theorem tA.form {h:Heap} {a:Value} {l:List Int} (hz:tA h a l):∃ p c,a=.slice p l.length c:=by
 obtain⟨B,hz⟩:=hz;exact hz.form
theorem lW:Tt HdR:=λh h' x m hl hr=>by
 obtain⟨a,e1,e2,e3⟩:=hr;exact⟨a,e1,e2.le hl,e3⟩
theorem uA {L:List Value} {n:Nat} {K:List Value->Prop} (h:L.length=n) (hk:K L):lJ L (λvs=>match vs.length.beq n with
  | true=>K vs
  | false=>False):=by
 refine(bL _ _).2 ?_;subst h;rw[Nat.beq_refl];exact hk
theorem ME {o:Option (List Value)} {cs:List Value} {K:List Value->Prop}:o=some cs->K cs->(match o with
  | some cs=>K cs
  | none=>False):=λhe hk=>by subst he;exact hk
theorem Jt {e:Env} {ty:Nat->Option TI} {K:List (Nat × List Value)->Prop} (hk:K []):parts e ty [] K:=hk
theorem aal {z L1 L2 L3:List Value} {k:Nat} (hz:z.length=k) (h1:L1.length=k) (h2:L2.length=k) (h3:L3.length=k):pL (λi=>some (i*k)) (uI 3 z) [(0,L1),(1,L2),(2,L3)]=some (L1++L2++L3):=by
 have e0:uI 3 z=[]++(z++(z++(z++[]))):=rfl;have w1:eS (uI 3 z) (0*k) L1=L1++(z++z):=by
  rw[e0];have:=iK L1 [] (z++(z++(z++[]))) (by simp;omega);simp only[List.length_nil]at this;rw[Nat.zero_mul,this,h1,<-hz,List.drop_left];simp
 have w2:eS (L1++(z++z)) (1*k) L2=(L1++L2)++z:=by
  have:=iK L2 L1 (z++z) (by simp;omega);rw[Nat.one_mul,<-h1,this,h2,<-hz,List.drop_left]
 have w3:eS ((L1++L2)++z) (2*k) L3=L1++L2++L3:=by
  have:=iK L3 (L1++L2) z (by omega);rw[show 2*k=(L1++L2).length by simp;omega,this,h3,<-hz,List.drop_length,List.append_nil]
 have b1:(0*k+L1.length).ble (uI 3 z).length=true:=Nat.ble_eq_true_of_le (by simp[uI];omega);have b2:(1*k+L2.length).ble (L1++(z++z)).length=true:=Nat.ble_eq_true_of_le (by simp;omega);have b3:(2*k+L3.length).ble ((L1++L2)++z).length=true:=Nat.ble_eq_true_of_le (by simp;omega);simp only[pL,b1,w1,b2,w2,b3,w3]
theorem GU {g:Heap} {bb:Nat} {vb:Value} {p:Int} (cp:Option Addr) (n cc:Nat) (r:bC g bb vb p) (hp:p<=70000000) (hn:2<=n/\n<=5) :
  Dr prog 105 [.pointer (some ⟨bb,0,none⟩),.slice cp n cc] g bb vb p 200 λg' v=>∃ b c ms,v=.slice (some ⟨b,0,none⟩) ms.length c/\vT 8 HdR g g' b c ms/\1<=ms.length/\ms.length<=4/\∀ m∈ms,fQ n m:=by
 refine bZ au func105 aaa Tg rfl ?_;conv=>whnf
 refine gY r (vS n r (by omega) (by omega)) (λv g1 q1 l1 r1 h1 h2 hA=>?_);obtain⟨a1,zJ,k1,rfl,z1,n1,t1,f1⟩:=hA;have z1:=z1.toZ;have hL1:(eR 0 0 a1 zJ 0).length=8:=rfl;generalize ac5:eR 0 0 a1 zJ 0=L1 at hL1;conv=>whnf
 refine gY r1 (vS n r1 (by omega) (by omega)) (λv g2 q2 l2 r2 h3 h4 hA=>?_);obtain⟨a2,zK,k2,rfl,z2,n2,t2,f2⟩:=hA;have z2:=z2.toZ;have hL2:(eR 0 0 a2 zK 0).length=8:=rfl;generalize ac6:eR 0 0 a2 zK 0=L2 at hL2;conv=>whnf
 refine gY r2 (vS n r2 (by omega) (by omega)) (λv g3 q3 l3 r3 h5 h6 hA=>?_);obtain⟨a3,Ju,k3,rfl,z3,n3,t3,f3⟩:=hA;have z3:=z3.toZ;have hL3:(eR 0 0 a3 Ju 0).length=8:=rfl;generalize ac7:eR 0 0 a3 Ju 0=L3 at hL3;conv=>whnf
 refine uA hL1 ?_;conv=>whnf
 refine uA hL2 ?_;conv=>whnf
 refine uA hL3 ?_;refine Jt ?_;refine ME (aal (k:=8) (z:=[.int .i64 0,.int .i64 0,.slice none 0 0,.int .i64 0,.int .i64 0,.slice none 0 0,.slice none 0 0,.slice none 0 0]) rfl hL1 hL2 hL3) ?_;conv=>whnf
 refine(bL _ _).2 ?_;conv=>whnf
 refine bF r3 (by omega) (λx x0 x1 x2 r5=>?_);conv=>whnf
 refine ah ?_;conv=>whnf
 refine lV (eR (-1) 0 (.slice none 0 0) 1 (1+x)) r5 rfl (λbm g5 iR nbm l5 r6 e5=>?_);conv=>whnf
 refine bF r6 (by omega) (λk kk0 kk1 kk2 r7=>?_);conv=>whnf
 subst ac5 ac6 ac7;have l35:g.le g5:=y_ l1 (y_ l2 (y_ l3 l5));have QT:g bm=none:=br (y_ l1 (y_ l2 l3)) iR;have a5:vT 8 HdR g g5 bm 1 [⟨-1,0,[],1,1+x,[],[],[]⟩]:=⟨l35,QT,[eR (-1) 0 (.slice none 0 0) 1 (1+x)],jC (by simp[eR]) rfl (by rw[e5];rfl),rfl,λi h1 h2=>by
  have h0:i=0:=by simp at h2;omega
  subst h0;exact⟨.slice none 0 0,rfl,⟨[],.inl ⟨rfl,rfl,rfl⟩⟩,rfl,rfl,rfl⟩⟩
 have hT5:∀ m∈[(⟨-1,0,[],1,1+x,[],[],[]⟩:cL)],fQ n m:=λm hm=>by
  rw[V_.1 hm];exact⟨.inl ⟨rfl,rfl⟩,by simp,.inl rfl,λt ht=>(by simp at ht),by simp only;omega,by simp[cG];omega⟩
 have l3m:g3.le (bh g5 bm):=vM l5 iR;have Zp:=z1.le (y_ l2 (y_ l3 l3m));have z2':=z2.le (y_ l3 l3m);clear z1 z2 z3;obtain⟨s1,d1,rfl⟩:=Zp.form;obtain⟨s2,d2,rfl⟩:=z2'.form;refine fh [0,5,6,7,8] [25] (λy:Heap × Int × Int × (Nat × Nat) × List cL=>0<=y.2.2.1/\(y.2.2.2.2.length:Int)+y.2.2.1<=4/\(bh g5 bm).le (bh y.1 y.2.2.2.1.1)/\bC y.1 bb vb y.2.1/\p<=y.2.1/\y.2.1<=p+40+20*(3-y.2.2.1)/\vT 8 HdR g y.1 y.2.2.2.1.1 y.2.2.2.1.2 y.2.2.2.2/\1<=y.2.2.2.2.length/\∀ m∈y.2.2.2.2,fQ n m) (λy=>y.2.2.1.toNat)
  (λy=>([.v (.pointer (some ⟨bb,0,none⟩)),.v (.int .i64 n),.r 25 3,.v (.slice (some ⟨y.2.2.2.1.1,0,none⟩) y.2.2.2.2.length y.2.2.2.1.2),.v (.int .i64 y.2.2.1)],[some (eR 0 0 (.slice s1 k1.length d1) zJ 0++eR 0 0 (.slice s2 k2.length d2) zK 0++eR 0 0 a3 Ju 0)],dz y.1 bb vb y.2.1))
  (g5,q3+1+1,k,(bm,1),[⟨-1,0,[],1,1+x,[],[],[]⟩]) ⟨kk0,by simp only[List.length_singleton];omega,z_ _,r7,by simp only;omega,by simp only;omega,a5,by simp,hT5⟩ rfl ?_
 rintro⟨g6,q6,k6,⟨b6,c6⟩,ms⟩ ⟨Nv,HF,l6,r6,ig,ur,a6,n6,t6⟩;simp only at Nv HF l6 r6 ig ur a6 n6 t6 ⊢;conv=>whnf
 apply ax<;>intro g2;all_goals conv=>whnf
 ·refine gY r6 (vS n r6 (by omega) (by omega)) (λv g7 q7 l7 r7 h7 h8 hA=>?_);obtain⟨aN,MF,kN,rfl,zN,nN,tN,fN⟩:=hA;obtain⟨o6,xX⟩:=a6.in;have zN7:=zN.bh (b:=b6) (by rw[xX];simp);obtain⟨sN,dN,rfl⟩:=zN7.form;conv=>whnf
  refine bF r7 (by omega) (λw w0 w1 w2 r8=>?_);conv=>whnf
  apply ax<;>intro gw;all_goals conv=>whnf
  ·refine bF r8 (by omega) (λsl s0 s1' s2' r9=>?_);have I8:sl=0\/sl=1:=by omega
   rcases I8 with rfl|rfl
   ·conv=>whnf
    refine aq ?_;conv=>whnf
    refine ah ?_;conv=>whnf
    refine bF r9 (by omega) (λxx xx0 xx1 xx2 iM=>?_);have Ae:=xx1 (by omega);conv=>whnf
    refine ah ?_;conv=>whnf
    refine cx ?_;conv=>whnf
    repeat' ((first|exact trivial|apply T_|refine ah ?_|refine bF iM (by omega) (λy y0 y1 y2 C0=>?_))<;>conv=>whnf)
    all_goals
     obtain⟨gj,AF⟩:∃ z:Int,z=mn (1+k1.length+y) 3:=⟨_,rfl⟩
     have MG:1+k1.length<=gj/\gj<=3:=by rw[AF];unfold mn;split<;>omega
     rw[<-AF];conv=>whnf
     refine fh [0,5,6,7,8,9,12,13] [9,25] (λy:Nat × Bool=>y.1<=ms.length) (λy=>ms.length-y.1)
      (λy=>([.v (.pointer (some ⟨bb,0,none⟩)),.v (.int .i64 n),.r 25 3,.v (.slice (some ⟨b6,0,none⟩) ms.length c6),.v (.int .i64 k6),.l 9 0,.v (.bool y.2),.v (.int .i64 y.1)],[some (eR (1+xx) 0 (.slice s1 k1.length d1) zJ gj),some (eR 0 0 (.slice s1 k1.length d1) zJ 0++eR 0 0 (.slice s2 k2.length d2) zK 0++eR 0 0 a3 Ju 0)],dz g7 bb vb (q7+1+1+1+1)))
      (0,false) (by simp only;omega) rfl ?_
     rintro⟨i,again⟩ hi;simp only at hi ⊢;conv=>whnf
     apply ax<;>intro g8;all_goals conv=>whnf
     ·have bV:i < ms.length:=by omega
      obtain⟨rec,e1,Cz,⟨am,MH,_⟩,_⟩:=(a6.aJ lW l7).at bV;have Dh:=jr (aY (vb:=vb) (p:=(q7+1+1+1+1)) C0.free) _ _ _ e1;subst MH;have rc:=aE Dh (i:=0) rfl;have rs:=aE Dh (i:=1) rfl;have rc0:rd (dz g7 bb vb (q7+1+1+1+1)) b6 (0+i*8)=_:=rc;cases again
      all_goals
       repeat' ((first|exact trivial|apply T_|apply ax<;>intro _|refine aq ?_|refine ptr ?_|refine ld rc0 ?_|refine ld rs ?_)<;>conv=>whnf)
      all_goals
       refine ah ?_;conv=>whnf
       first
       | exact dm (i+1,true) (by simp only;omega) (by simp only;omega) rfl
       | exact dm (i+1,false) (by simp only;omega) (by simp only;omega) rfl
       | (refine dm (i+1,_) (by simp only;omega) (by simp only;omega) rfl)
     ·have hT:fQ n ⟨(1+xx),0,k1,zJ,gj,[],[],[]⟩:=⟨(.inr ⟨by simp only;omega,by simp only;omega,by simp only;omega,by simp only;omega⟩),n1,f1,t1,MG.2,by (simp[cG];split<;>simp<;>omega)⟩
      cases again
      ·conv=>whnf
       refine(a6.aJ lW l7).oB lW (s:=⟨(1+xx),0,k1,zJ,gj,[],[],[]⟩) r C0 rfl ⟨_,rfl,Zp.le (y_ l6 (cy b6 l7)),rfl,rfl,rfl⟩ rfl rfl (by omega) rfl (Nat.le_of_ble_eq_true rfl) (λb9 c9 g9 a9 l9 r9=>?_);conv=>whnf
       refine ah ?_;conv=>whnf
       have lf:(ms++[(⟨(1+xx),0,k1,zJ,gj,[],[],[]⟩:cL)]).length=ms.length+1:=by simp
       refine dm (g9,(q7+1+1+1+1),k6-1,(b9,c9),ms++[⟨(1+xx),0,k1,zJ,gj,[],[],[]⟩]) ⟨by simp only;omega,by simp only[lf];omega,y_ l6 (y_ (cy b6 l7) l9),r9,by simp only;omega,by simp only;omega,a9,by simp only[lf];omega,λm hm=>?_⟩ (by simp only;omega) (by simp only[lf];rfl);rcases u_.1 hm with hm|hm
       ·exact t6 m hm
       ·rw[V_.1 hm];exact hT
      ·conv=>whnf
       refine ah ?_;conv=>whnf
       exact dm (g7,(q7+1+1+1+1),k6-1,(b6,c6),ms) ⟨by simp only;omega,by simp only;omega,y_ l6 (cy b6 l7),C0,by simp only;omega,by simp only;omega,a6.aJ lW l7,n6,t6⟩ (by simp only;omega) rfl
   ·conv=>whnf
    refine aq ?_;conv=>whnf
    refine ah ?_;conv=>whnf
    refine bF r9 (by omega) (λxx xx0 xx1 xx2 iM=>?_);have Ae:=xx1 (by omega);conv=>whnf
    refine ah ?_;conv=>whnf
    refine cx ?_;conv=>whnf
    repeat' ((first|exact trivial|apply T_|refine ah ?_|refine bF iM (by omega) (λy y0 y1 y2 C0=>?_))<;>conv=>whnf)
    all_goals
     obtain⟨gj,AF⟩:∃ z:Int,z=mn (1+k2.length+y) 3:=⟨_,rfl⟩
     have MG:1+k2.length<=gj/\gj<=3:=by rw[AF];unfold mn;split<;>omega
     rw[<-AF];conv=>whnf
     refine fh [0,5,6,7,8,9,12,13] [9,25] (λy:Nat × Bool=>y.1<=ms.length) (λy=>ms.length-y.1)
      (λy=>([.v (.pointer (some ⟨bb,0,none⟩)),.v (.int .i64 n),.r 25 3,.v (.slice (some ⟨b6,0,none⟩) ms.length c6),.v (.int .i64 k6),.l 9 0,.v (.bool y.2),.v (.int .i64 y.1)],[some (eR (1+xx) 1 (.slice s2 k2.length d2) zK gj),some (eR 0 0 (.slice s1 k1.length d1) zJ 0++eR 0 0 (.slice s2 k2.length d2) zK 0++eR 0 0 a3 Ju 0)],dz g7 bb vb (q7+1+1+1+1)))
      (0,false) (by simp only;omega) rfl ?_
     rintro⟨i,again⟩ hi;simp only at hi ⊢;conv=>whnf
     apply ax<;>intro g8;all_goals conv=>whnf
     ·have bV:i < ms.length:=by omega
      obtain⟨rec,e1,Cz,⟨am,MH,_⟩,_⟩:=(a6.aJ lW l7).at bV;have Dh:=jr (aY (vb:=vb) (p:=(q7+1+1+1+1)) C0.free) _ _ _ e1;subst MH;have rc:=aE Dh (i:=0) rfl;have rs:=aE Dh (i:=1) rfl;have rc0:rd (dz g7 bb vb (q7+1+1+1+1)) b6 (0+i*8)=_:=rc;cases again
      all_goals
       repeat' ((first|exact trivial|apply T_|apply ax<;>intro _|refine aq ?_|refine ptr ?_|refine ld rc0 ?_|refine ld rs ?_)<;>conv=>whnf)
      all_goals
       refine ah ?_;conv=>whnf
       first
       | exact dm (i+1,true) (by simp only;omega) (by simp only;omega) rfl
       | exact dm (i+1,false) (by simp only;omega) (by simp only;omega) rfl
       | (refine dm (i+1,_) (by simp only;omega) (by simp only;omega) rfl)
     ·have hT:fQ n ⟨(1+xx),1,k2,zK,gj,[],[],[]⟩:=⟨(.inr ⟨by simp only;omega,by simp only;omega,by simp only;omega,by simp only;omega⟩),n2,f2,t2,MG.2,by (simp[cG];split<;>simp<;>omega)⟩
      cases again
      ·conv=>whnf
       refine(a6.aJ lW l7).oB lW (s:=⟨(1+xx),1,k2,zK,gj,[],[],[]⟩) r C0 rfl ⟨_,rfl,z2'.le (y_ l6 (cy b6 l7)),rfl,rfl,rfl⟩ rfl rfl (by omega) rfl (Nat.le_of_ble_eq_true rfl) (λb9 c9 g9 a9 l9 r9=>?_);conv=>whnf
       refine ah ?_;conv=>whnf
       have lf:(ms++[(⟨(1+xx),1,k2,zK,gj,[],[],[]⟩:cL)]).length=ms.length+1:=by simp
       refine dm (g9,(q7+1+1+1+1),k6-1,(b9,c9),ms++[⟨(1+xx),1,k2,zK,gj,[],[],[]⟩]) ⟨by simp only;omega,by simp only[lf];omega,y_ l6 (y_ (cy b6 l7) l9),r9,by simp only;omega,by simp only;omega,a9,by simp only[lf];omega,λm hm=>?_⟩ (by simp only;omega) (by simp only[lf];rfl);rcases u_.1 hm with hm|hm
       ·exact t6 m hm
       ·rw[V_.1 hm];exact hT
      ·conv=>whnf
       refine ah ?_;conv=>whnf
       exact dm (g7,(q7+1+1+1+1),k6-1,(b6,c6),ms) ⟨by simp only;omega,by simp only;omega,y_ l6 (cy b6 l7),C0,by simp only;omega,by simp only;omega,a6.aJ lW l7,n6,t6⟩ (by simp only;omega) rfl
  ·conv=>whnf
   repeat' ((first|exact trivial|apply T_|refine ah ?_|refine bF r8 (by omega) (λy y0 y1 y2 C0=>?_))<;>conv=>whnf)
   all_goals
    obtain⟨gj,AF⟩:∃ z:Int,z=mn (0+kN.length+y) 3:=⟨_,rfl⟩
    have MG:0+kN.length<=gj/\gj<=3:=by rw[AF];unfold mn;split<;>omega
    rw[<-AF];conv=>whnf
    refine fh [0,5,6,7,8,9,12,13] [9,25] (λy:Nat × Bool=>y.1<=ms.length) (λy=>ms.length-y.1)
     (λy=>([.v (.pointer (some ⟨bb,0,none⟩)),.v (.int .i64 n),.r 25 3,.v (.slice (some ⟨b6,0,none⟩) ms.length c6),.v (.int .i64 k6),.l 9 0,.v (.bool y.2),.v (.int .i64 y.1)],[some (eR (-1) 0 (.slice sN kN.length dN) MF gj),some (eR 0 0 (.slice s1 k1.length d1) zJ 0++eR 0 0 (.slice s2 k2.length d2) zK 0++eR 0 0 a3 Ju 0)],dz g7 bb vb (q7+1+1)))
     (0,false) (by simp only;omega) rfl ?_
    rintro⟨i,again⟩ hi;simp only at hi ⊢;conv=>whnf
    apply ax<;>intro g8;all_goals conv=>whnf
    ·have bV:i < ms.length:=by omega
     obtain⟨rec,e1,Cz,⟨am,MH,_⟩,_⟩:=(a6.aJ lW l7).at bV;have Dh:=jr (aY (vb:=vb) (p:=(q7+1+1)) C0.free) _ _ _ e1;subst MH;have rc:=aE Dh (i:=0) rfl;have rs:=aE Dh (i:=1) rfl;have rc0:rd (dz g7 bb vb (q7+1+1)) b6 (0+i*8)=_:=rc;cases again
     all_goals
      repeat' ((first|exact trivial|apply T_|apply ax<;>intro _|refine aq ?_|refine ptr ?_|refine ld rc0 ?_|refine ld rs ?_)<;>conv=>whnf)
     all_goals
      refine ah ?_;conv=>whnf
      first
      | exact dm (i+1,true) (by simp only;omega) (by simp only;omega) rfl
      | exact dm (i+1,false) (by simp only;omega) (by simp only;omega) rfl
      | (refine dm (i+1,_) (by simp only;omega) (by simp only;omega) rfl)
    ·have hT:fQ n ⟨(-1),0,kN,MF,gj,[],[],[]⟩:=⟨(.inl ⟨rfl,rfl⟩),nN,fN,tN,MG.2,by (simp[cG];omega)⟩
     cases again
     ·conv=>whnf
      refine(a6.aJ lW l7).oB lW (s:=⟨(-1),0,kN,MF,gj,[],[],[]⟩) r C0 rfl ⟨_,rfl,zN7,rfl,rfl,rfl⟩ rfl rfl (by omega) rfl (Nat.le_of_ble_eq_true rfl) (λb9 c9 g9 a9 l9 r9=>?_);conv=>whnf
      refine ah ?_;conv=>whnf
      have lf:(ms++[(⟨(-1),0,kN,MF,gj,[],[],[]⟩:cL)]).length=ms.length+1:=by simp
      refine dm (g9,(q7+1+1),k6-1,(b9,c9),ms++[⟨(-1),0,kN,MF,gj,[],[],[]⟩]) ⟨by simp only;omega,by simp only[lf];omega,y_ l6 (y_ (cy b6 l7) l9),r9,by simp only;omega,by simp only;omega,a9,by simp only[lf];omega,λm hm=>?_⟩ (by simp only;omega) (by simp only[lf];rfl);rcases u_.1 hm with hm|hm
      ·exact t6 m hm
      ·rw[V_.1 hm];exact hT
     ·conv=>whnf
      refine ah ?_;conv=>whnf
      exact dm (g7,(q7+1+1),k6-1,(b6,c6),ms) ⟨by simp only;omega,by simp only;omega,y_ l6 (cy b6 l7),C0,by simp only;omega,by simp only;omega,a6.aJ lW l7,n6,t6⟩ (by simp only;omega) rfl
 ·exact⟨_,_,rfl,a6.le,r6.free,by omega,by omega,_,_,_,rfl,a6,n6,by omega,t6⟩
def ac8 (v:Value):Prop:=∃ k a b:Int,v=.agg #[.int .i64 k,.int .i64 a,.int .i64 b]/\(0<=k/\k<=24)/\¬(8<=k/\k<=11)/\k≠22/\(-1000<=a/\a<=1000)/\-1000<=b/\b<=1000
theorem MI {g:Heap} {bb:Nat} {vb:Value} {p:Int} {K:Value->Heap->Prop} {E:List PanicEntry->Heap->Prop} (r:bC g bb vb p) (hp:p<=100000000)
  (hk:∀ x q,-128<=x->x<=127->bC g bb vb q->p<=q->q<=p+2->K (.int .i64 x) (dz g bb vb q)):Go.Vc.Call prog 103 [.pointer (some ⟨bb,0,none⟩)] (dz g bb vb p) K E :=
 gY r (BB r hp) λv g' q hl r' h1 h2 hA=>by
  obtain⟨rfl,x,rfl,h3,h4⟩:=hA;exact hk x q h3 h4 r' h1 h2
theorem Tu {g:Heap} {bb:Nat} {vb:Value} {p:Int} {K:Value->Heap->Prop} {E:List PanicEntry->Heap->Prop} {cp:Option Addr} {n c:Nat} {cs:List eD} {x:Int} (r:bC g bb vb p) (hcs:fP g (.slice cp n c) cs) (ok:cI cs) (hx:0<=x/\x < cs.length)
  (hk:∀ g' p' c' (k:Nat),g.le g'->bC g' bb vb p->k<=100->K (.slice p' k c') (dz g' bb vb p)):Go.Vc.Call prog 80 [.slice cp n c,.int .i64 x] (dz g bb vb p) K E :=
 Pq r (jJ (x.toNat+1) cp n c cs x g hcs ok hx.1 hx.2 (by omega)) λv g' hl r' hA=>by
  obtain⟨B,own,_⟩:=hA;obtain⟨p',c',rfl,_⟩:=own.form;have:=eH ok hx.2;exact hk g' p' c' _ hl r' (by simp;omega)
theorem ES {g:Heap} {bb:Nat} {vb:Value} {p:Int} (us ms:List Value) (u:aO) (m:cL) (r:bC g bb vb p) (hp:p<=60000000) (hu:dG g us u) (hm:eM g ms m) (ok:cI u.J) (hl:m.locals<=3) (hn:u.methods.length<=100) :
  Dr prog 56 [.pointer (some ⟨bb,0,none⟩),.agg ⟨us⟩,.agg ⟨ms⟩] g bb vb p 10 λg' v=>ac8 v:=by
 obtain⟨cp,cc,q,d,rfl,hcs,fM,ji,hl2⟩:=hu.form;obtain⟨p1,c1,p2,c2,p3,c3,p4,c4,rfl,k1,k2,k3,k4,k5,k6,k7,k8,d1,d2,d3,d4⟩:=hm.form;have zi:=ok.2.1;have JS:=ok.1;refine bZ au func56 F56 aby rfl ?_;conv=>whnf
 refine bF r (by omega) (λc cx0 cx1 cx2 r1=>?_);have hc:=cx1 (by omega);conv=>whnf
 refine bF r1 (by omega) (λx x0 x1 x2 r2=>?_);have hx:=x1 (by omega);have NG:1<=mx m.locals 1/\mx m.locals 1<=3:=by unfold mx;split<;>omega
 have Ga:∀ k:Nat,k<=100->1<=mx (k:Int) 1/\mx (k:Int) 1<=100:=λk hk=>by unfold mx;split<;>omega
 have hxs:x=0\/x=1\/x=2\/x=3\/x=4\/x=5\/x=6\/x=7\/x=8\/x=9\/x=10\/x=11\/x=12\/x=13\/x=14\/x=15\/x=16\/x=17\/x=18\/x=19\/x=20\/x=21\/x=22\/x=23\/x=24\/x=25:=by omega
 clear x0 x1 x2 hx;rcases hxs with rfl|rfl|rfl|rfl|rfl|rfl|rfl|rfl|rfl|rfl|rfl|rfl|rfl|rfl|rfl|rfl|rfl|rfl|rfl|rfl|rfl|rfl|rfl|rfl|rfl|rfl;all_goals
  conv=>whnf
  repeat' ((first
   | exact⟨_,_,rfl,z_ g,r.free,by omega,by omega,_,_,_,rfl,⟨by omega,by omega⟩,by omega,by omega,⟨by omega,by omega⟩,by omega,by omega⟩
   | exact⟨_,_,rfl,tQ,r3.free,by omega,by omega,_,_,_,rfl,⟨by omega,by omega⟩,by omega,by omega,⟨by omega,by omega⟩,by have:=Ga _ hk;omega,by have:=Ga _ hk;omega⟩
   | refine ah ?_
   | refine bF r2 (by omega) (λy y0 y1 y2 r4=>?_)
   | refine bF r3 (by omega) (λy y0 y1 y2 r4=>?_)
   | refine MI r2 (by omega) (λy q y0 y1 r4 y2 y3=>?_)
   | refine Tu r2 hcs ok ⟨cx0,by omega⟩ (λg3 p' c' k tQ r3 hk=>?_))<;>conv=>whnf)
 have hy:y=0\/y=1\/y=2:=by omega
 rcases hy with rfl|rfl|rfl;all_goals
  refine aq ?_;conv=>whnf
  exact⟨_,_,rfl,z_ g,r.free,by omega,by omega,_,_,_,rfl,⟨by omega,by omega⟩,by omega,by omega,⟨by omega,by omega⟩,by omega,by omega⟩
theorem Pu {p:Prop} {v:Value} (hv:v=tf p):(v=.bool true/\p)\/(v=.bool false/\¬p):=by
 by_cases h:p
 ·exact .inl ⟨hv.trans (fk h),h⟩
 ·exact .inr ⟨hv.trans (dD h),h⟩
theorem MJ (us ms:List Value) (u:aO) (m:cL) (x:ez) (s:dY) (lp kp:Option Addr) (lc kc:Nat) (h:Heap) (hu:dG h us u) (hm:eM h ms m) (hV:GI u) (hI:tq h s lp kp lc kc) (hs:rP u.J.length m.locals s) (Ai:0<=m.locals) (hl:m.locals<=3) (fK:dg u.J.length m.out)
  (hk:0<=x.kind/\x.kind<=24) (ha : -1000<=x.a/\x.a<=1000) (hb : -1000<=x.b/\x.b<=1000) :
  bI prog 177 [.agg ⟨us⟩,.agg ⟨ms⟩,.agg #[.int .i64 x.kind,.int .i64 x.a,.int .i64 x.b],.agg #[.bool s.told,.slice lp s.locals.length lc,.slice kp s.stack.length kc]] h λv h'=>h.le h'/\∃ r,vJ h' v r/\∀ y,r=some y->rP u.J.length m.locals y/\y.told=s.told/\eU u {m with code:=[x]} x:=by
 obtain⟨p1,c1,p2,c2,p3,c3,p4,c4,rfl,k1,k2,k3,k4,k5,k6,k7,k8,d1,d2,d3,d4⟩:=hm.form;have GV:=λms1 h1 (l1:h.le h1) (NG:eM h1 ms1 {m with code:=[x]})=>yc us ms1 u {m with code:=[x]} x h1 (hu.le l1) NG hV.1 ⟨by unfold cY;omega,by unfold cY;omega⟩ Ai;have gM:=λms1 h1 (l1:h.le h1) (NG:eM h1 ms1 {m with code:=[x]}) (hx:eU u {m with code:=[x]} x)=>wX us ms1 u {m with code:=[x]} 0 s lp kp lc kc h1 (hu.le l1) NG hV (hI.le l1) hs hl (by simp) hx fK;have hval:=λ(hx:eU u {m with code:=[x]} x)=>sQ (m:={m with code:=[x]}) hV hs hx;obtain⟨cp,cc,q,d,rfl,hcs,fM,ji,hl2⟩:=hu.form;generalize eU u {m with code:=[x]} x=IT at GV gM hval;obtain⟨k,a,b⟩:=x;simp only at hk ha hb;refine bZ au func177 Xp Xq rfl ?_;conv=>whnf
 refine ec [.int .i64 k,.int .i64 a,.int .i64 b] rfl (λb1 h1 gL e1 l1 g1=>?_);have NG:eM h1 [.int .i64 m.cls,.int .i64 m.fG,.slice p1 m.args.length c1,.int .i64 m.out,.int .i64 m.locals,.slice (some ⟨b1,0,none⟩) 1 1,.slice p3 m.aQ.length c3,.slice p4 m.catches.length c4] {m with code:=[⟨k,a,b⟩]}:=by
  refine⟨_,_,_,_,rfl,k1,k2,k3,k4,k5.le l1,?_,k7.le l1 (λ_ _ hx=>hx.le l1),k8.le l1 (λ_ _ hx=>hx)⟩;refine⟨by simp,_,_,rfl,by simp,.inr ⟨b1,0,rfl,λi y hi=>?_⟩⟩;have h0:i=0:=by
   have:=(List.getElem?_eq_some_iff.1 hi).1;simp at this;exact this
  subst h0;simp at hi;subst hi;exact⟨_,bO g1 3 0 (by simp),rfl,by show cY k;unfold cY;omega,by show cY a;unfold cY;omega,by show cY b;unfold cY;omega⟩
 have Q9:=GV _ h1 l1 NG;have Tv:=gM _ h1 l1 NG;obtain⟨tv,Ft⟩:∃ tv,tv=tf IT:=⟨_,rfl⟩
 rw[<-Ft]at Q9;conv=>whnf
 refine aj Q9 ?_;rcases Pu Ft with ⟨rfl,Ra⟩|⟨rfl,Ra⟩
 ·have eB:=Tv Ra;have Lo:=hval Ra;have fin:∀ h2,h.le h2->h.le h2/\∃ r,vJ h2 (.tuple #[.agg #[.bool s.told,.slice lp s.locals.length lc,.slice kp s.stack.length kc],.bool false]) r/\∀ y,r=some y->rP u.J.length m.locals y/\y.told=s.told/\IT:=λh2 l2=>⟨l2,none,⟨_,_,_,_,_,_,_,rfl⟩,λy hy=>by cases hy⟩
  have aam:∀ v h2,h1.le h2->vJ h2 v (stepT u {m with code:=[⟨k,a,b⟩]} ⟨k,a,b⟩ s)->h.le h2/\∃ r,vJ h2 v r/\∀ y,r=some y->rP u.J.length m.locals y/\y.told=s.told/\IT:=λv h2 l2 hr=>⟨y_ l1 l2,_,hr,λy hy=>⟨(Lo y hy).1,(Lo y hy).2,Ra⟩⟩
  change bI _ _ _ _ (λv h'=>h1.le h'/\vJ h' v (stepT u {m with code:=[⟨k,a,b⟩]} ⟨k,a,b⟩ s))at eB
  conv=>whnf
  apply ax<;>intro g2;all_goals conv=>whnf
  ·apply ax<;>intro g3;all_goals conv=>whnf
   ·exact fin h1 l1
   ·refine aC eB (λv h2 hh=>?_);refine hh.2.form.elim λa1 hf=>hf.elim λp1 hf=>hf.elim λn1 hf=>hf.elim λc1 hf=>hf.elim λp3 hf=>hf.elim λn3 hf=>hf.elim λc3 hf=>hf.elim λb1 hf=>?_;subst hf;conv=>whnf
    exact aam _ h2 hh.1 hh.2
  ·refine aC eB (λv h2 hh=>?_);refine hh.2.form.elim λa1 hf=>hf.elim λp1 hf=>hf.elim λn1 hf=>hf.elim λc1 hf=>hf.elim λp3 hf=>hf.elim λn3 hf=>hf.elim λc3 hf=>hf.elim λb1 hf=>?_;subst hf;conv=>whnf
   exact aam _ h2 hh.1 hh.2
 ·conv=>whnf
  exact⟨l1,none,⟨_,_,_,_,_,_,_,rfl⟩,λy hy=>by cases hy⟩
def dV (x:ez):List Value:=[.int .i64 x.kind,.int .i64 x.a,.int .i64 x.b]
theorem zL {g:Heap} {bb:Nat} {vb:Value} {p:Int} (ms:List Value) (m:cL) (r:bC g bb vb p) (hp:p<=60000000) (hm:eM g ms m) :
  Dr prog 108 [.pointer (some ⟨bb,0,none⟩),.agg ⟨ms⟩] g bb vb p 3 λg' v=>∃ b x y,v=.slice (some ⟨b,0,none⟩) 2 2/\g b=none/\g' b=some (.cells (dV x++dV y).toArray 41 (0,0)) /\
   ((y=⟨23,0,0⟩/\x=⟨12,1,0⟩)\/(y=⟨22,0,0⟩/\(x=⟨2,0,0⟩\/∃ w,x=⟨1,w,0⟩/\-128<=w/\w<=127))):=by
 obtain⟨p1,c1,p2,c2,p3,c3,p4,c4,rfl,k1,k2,k3,k4,k5,k6,k7,k8,d1,d2,d3,d4⟩:=hm.form;refine bZ au func108 VA VC rfl ?_;conv=>whnf
 apply ax<;>intro g1;all_goals conv=>whnf
 ·refine MI r (by omega) (λw q w0 w1 r1 q0 q1=>?_);conv=>whnf
  refine bF r1 (by omega) (λx x0 x1 x2 r2=>?_);conv=>whnf
  apply ax<;>intro g2;all_goals conv=>whnf
  ·refine lV (dV ⟨12,1,0⟩++dV ⟨23,0,0⟩) r2 rfl (λb g3 hb nb l3 r3 e3=>?_);conv=>whnf
   exact⟨_,_,rfl,l3,r3.free,by omega,by omega,b,_,_,rfl,hb,e3,.inl ⟨rfl,rfl⟩⟩
  ·refine lV (dV ⟨1,w,0⟩++dV ⟨22,0,0⟩) r2 rfl (λb g3 hb nb l3 r3 e3=>?_);conv=>whnf
   exact⟨_,_,rfl,l3,r3.free,by omega,by omega,b,_,_,rfl,hb,e3,.inr ⟨rfl,.inr ⟨w,rfl,w0,w1⟩⟩⟩
 ·refine bF r (by omega) (λx x0 x1 x2 r2=>?_);conv=>whnf
  apply ax<;>intro g2;all_goals conv=>whnf
  ·refine lV (dV ⟨12,1,0⟩++dV ⟨23,0,0⟩) r2 rfl (λb g3 hb nb l3 r3 e3=>?_);conv=>whnf
   exact⟨_,_,rfl,l3,r3.free,by omega,by omega,b,_,_,rfl,hb,e3,.inl ⟨rfl,rfl⟩⟩
  ·refine lV (dV ⟨2,0,0⟩++dV ⟨22,0,0⟩) r2 rfl (λb g3 hb nb l3 r3 e3=>?_);conv=>whnf
   exact⟨_,_,rfl,l3,r3.free,by omega,by omega,b,_,_,rfl,hb,e3,.inr ⟨rfl,.inl rfl⟩⟩
def fZ (h:Heap) (L:List Nat):Heap:=λx=>if x∈L then none else h x
theorem nG {h:Heap} {L:List Nat} {x:Nat} (hx:x∈L):fZ h L x=none:=by unfold fZ;rw[if_pos hx]
theorem gT {h:Heap} {L:List Nat} {x:Nat} (hx:x ∉ L):fZ h L x=h x:=by unfold fZ;rw[if_neg hx]
theorem ET (h:Heap) (L:List Nat):(fZ h L).le h:=λx o hx=>by
 by_cases e:x∈L
 ·rw[nG e]at hx;cases hx
 ·rw[gT e]at hx;exact hx
theorem eg {h h':Heap} (L:List Nat) (hl:h.le h'):(fZ h L).le (fZ h' L):=λx o hx=>by
 by_cases e:x∈L
 ·rw[nG e]at hx;cases hx
 ·rw[gT e]at hx ⊢;exact hl x o hx
theorem zM {h0 h:Heap} {L:List Nat} (hl:h0.le h) (hb:∀ b∈L,h0 b=none):h0.le (fZ h L):=λx o hx=>by
 by_cases e:x∈L
 ·rw[hb x e]at hx;cases hx
 ·rw[gT e];exact hl x o hx
theorem Pv {h h':Heap} {L:List Nat} (hl:(fZ h L).le (fZ h' L)) (hb:∀ b∈L,h' b=h b):h.le h':=λx o hx=>by
 by_cases e:x∈L
 ·rw[hb x e];exact hx
 ·have:=hl x o (by rw[gT e];exact hx);rwa [gT e]at this
theorem EU {h h':Heap} {L L':List Nat} (ev:Ev h h' L L'):(fZ h L).le (fZ h' L'):=λx o hx=>by
 by_cases e:x∈L
 ·rw[nG e]at hx;cases hx
 ·rw[gT e]at hx;have hn:x ∉ L':=λhm=>by
   rcases ev.new x hm with h1|h1
   ·exact e h1
   ·rw[hx]at h1;cases h1
  rw[gT hn,ev.iB x (by rw[hx];simp) e];exact hx
theorem GX {P:Program} {f:FuncId} {args:List Value} {h:Heap} {L:List Nat} {R:Value->Heap->Prop} (hb:∀ b∈L,∃ o,h b=some o) (hc:bI P f args (fZ h L) R) :
  bI P f args h λv h'=>(∀ b∈L,h' b=h b)/\R v (fZ h' L):=by
 intro w hv;refine(hc w (λb' o' hx=>hv b' o' (ET h L b' o' hx))).mono ?_;rintro e w' ⟨h1,m,hm⟩;have gE:∀ b∈L,b < w.heap.size:=λb hx=>by obtain⟨o,ho⟩:=hb b hx;exact eV (hv b o ho)
 have Qz:∀ b∈L,h1 b=none:=λb hbL=>by
  cases hx:h1 b with
  | none=>rfl
  | some x =>
   rcases m.x9 b (by rw[hx];simp)with h2|h2
   ·exact absurd (nG hbL) h2
   ·have:=gE b hbL;omega
 let h':Heap:=λx=>if x∈L then h x else h1 x
 have fW:∀ x,x∈L->h' x=h x:=λx hx=>by simp[h',hx]
 have fK:∀ x,x ∉ L->h' x=h1 x:=λx hx=>by simp[h',hx]
 have hh:fZ h' L=h1:=by
  funext x
  by_cases e:x∈L
  ·rw[nG e,Qz x e]
  ·rw[gT e,fK x e]
 have mv:dn h w h' w':=by
  refine⟨λx y hx=>?_,λx hx hn=>?_,λx hx=>?_,m.size,m.fz,m.out⟩
  ·by_cases e:x∈L
   ·have hk:=m.aJ x (gE x e) (nG e);rw[fW x e]at hx;rw[hk];exact hv x y hx
   ·rw[fK x e]at hx;exact m.view x y hx
  ·have Z0:fZ h L x=none:=by
    by_cases e:x∈L
    ·exact nG e
    ·rw[gT e];exact hn
   exact m.aJ x hx Z0
  ·by_cases e:x∈L
   ·left;obtain⟨o,ho⟩:=hb x e;rw[ho];simp
   ·rw[fK x e]at hx;rcases m.x9 x hx with h2|h2
    ·left;rwa [gT e]at h2
    ·exact .inr h2
 refine⟨h',mv,?_⟩;cases e with
 | returned v=>exact⟨fW,by rw[hh];exact hm⟩
 | panicked c=>exact hm.elim
 | outgrown=>exact hm.elim
theorem MK {P:Program} {f:FuncId} {args:List Value} {g:Heap} {L:List Nat} {bb:Nat} {vb:Value} {p:Int} {R:Value->Heap->Prop} {K:Value->Heap->Prop} {E:List PanicEntry->Heap->Prop} (r:bC g bb vb p) (hL:∀ b∈L,∃ o,g b=some o) (hc:bI P f args (fZ g L) λv g'=>(fZ g L).le g'/\R v g')
  (hk:∀ v g',g.le g'->bC g' bb vb p->R v (fZ g' L)->K v (dz g' bb vb p)):Go.Vc.Call P f args (dz g bb vb p) K E :=
 Pq r (bI.mono (GX hL hc) λv g' hh=>⟨Pv hh.2.1 hh.1,hh.2.2⟩) hk
abbrev EV (h:Heap) (v:Value) (l:List ez) (B:List Nat):Prop:=cr 3 h v (l.map dV) B
def vU (u:aO) (m:cL) (x:ez):Prop:=(eU u {m with code:=[x]} x/\¬(8<=x.kind/\x.kind<=11)/\x.kind≠22/\x.kind≠23)\/((8<=x.kind/\x.kind<=10)/\(-3<=x.a/\x.a<=-1)/\x.b=0)
structure lH (g0 g:Heap) (u:aO) (m:cL) (code:List ez) (pc:Option Addr) (cc:Nat) (Bc:List Nat) (el:List Int) (pe:Option Addr) (ce:Nat) (Be:List Nat):Prop where
 le:g0.le g
 oc:EV g (.slice pc code.length cc) code Bc
 oe:dR g (.slice pe el.length ce) el Be
 nd:Nd (Bc++Be)
 fr:∀ b∈Bc++Be,g0 b=none
 ins:∀ x∈code,vU u m x
 emp:∀ t∈el,0<=t/\t<=(code.length:Int)
 lel:el.length<=1000
theorem lH.in {g0 g:Heap} {u:aO} {m:cL} {code:List ez} {pc:Option Addr} {cc:Nat} {Bc:List Nat} {el:List Int} {pe:Option Addr} {ce:Nat} {Be:List Nat} (h:lH g0 g u m code pc cc Bc el pe ce Be):∀ b∈Bc++Be,∃ o,g b=some o :=
 λb hb=>(u_.1 hb).elim (h.oc.in b) (h.oe.in b)
theorem lH.aJ {g0 g g':Heap} {u:aO} {m:cL} {code:List ez} {pc:Option Addr} {cc:Nat} {Bc:List Nat} {el:List Int} {pe:Option Addr} {ce:Nat} {Be:List Nat} (h:lH g0 g u m code pc cc Bc el pe ce Be) (hl:g.le g'):lH g0 g' u m code pc cc Bc el pe ce Be :=
 ⟨y_ h.le hl,h.oc.aJ (cR.of_le hl _),h.oe.aJ (cR.of_le hl _),h.nd,h.fr,h.ins,h.emp,h.lel⟩
theorem wZ {A B:List Nat} (h:Nd (A++B)):∀ b∈A,b ∉ B:=λb ha hb=>by
 have:=h b;have:=W_.2 ha;have:=W_.2 hb;simp only[Y_]at *;omega
theorem lH.app {g0 g:Heap} {u:aO} {m:cL} {code:List ez} {pc:Option Addr} {cc:Nat} {Bc:List Nat} {el:List Int} {pe:Option Addr} {ce:Nat} {Be:List Nat} {bb:Nat} {vb:Value} {q0 q:Int} {n bytes:Nat} {zero:List Value} {ty:TypeId} {K:Value->Heap->Prop} (h:lH g0 g u m code pc cc Bc el pe ce Be) (r0:bC g0 bb vb q0) (r:bC g bb vb q) (x:ez) (hx:vU u m x) (hn:n=code.length) (hl:code.length<=1000) (hz:zero.length=3) (hb:bytes<=1000)
  (hk:∀ p' c' g' B',lH g0 g' u m (code++[x]) p' c' B' el pe ce Be->(fZ g (Bc++Be)).le (fZ g' (B'++Be))->bC g' bb vb q->K (.slice p' (code.length+1) c') (dz g' bb vb q)):App bytes 3 zero ty (dz g bb vb q) pc n cc 1 (dV x) K:=by
 subst hn;have fW:=h.in;have hm:((code.map dV).length + [dV x].length)*bytes<=1001*1000:=Nat.mul_le_mul (by simp;omega) hb;refine Go.Proofs.oB r0 r (ys:=[dV x]) h.oc (λb hb=>h.fr b (by simp[hb])) h.le (by simp) rfl (by simp[dV]) rfl hz (by omega) (by simp;omega) ?_;intro v' g' B' k1 k2 k3 k4 k5 k6;have ER:EV g' v' (code++[x]) B':=by unfold EV;rw[List.map_append];exact k3
 obtain⟨p',c',rfl,_⟩:=cr.form ER;have tn:((code++[x]).map dV).length=code.length+1:=by simp
 rw[tn]at ER ⊢;have ev:Ev g g' Bc B':=⟨λb hb hs=>k5 b hs hb,k6⟩
 have evL:Ev g g' (Bc++Be) (B'++Be):=⟨λb hb hs=>k5 b (λhm=>hs (by simp[hm])) hb,λb hb=>by
  rcases u_.1 hb with h1|h1
  ·exact(k6 b h1).imp (λh2=>by simp[h2]) id
  ·exact .inl (by simp[h1])⟩
 refine hk p' c' g' B' ⟨k1,by simpa using ER,h.oe.aJ (ev.aJ λb hb hc=>wZ h.nd b hc hb),?_,λb hb=>?_,λy hy=>?_,λt ht=>?_,h.lel⟩ (EU evL) k2
 ·have:=Nd.swap (A:=Be) (X:=Bc) (X':=B') (h.nd.perm λa=>by simp only[Y_];omega) ER.nd (λb hb=>(k6 b hb).imp id λhn hm=>by
   obtain⟨o,ho⟩:=fW b (by simp[hm]);rw[hn]at ho;cases ho)
  exact this.perm λa=>by simp only[Y_];omega
 ·rcases u_.1 hb with h1|h1
  ·exact k4 b h1
  ·exact h.fr b (by simp[h1])
 ·rcases u_.1 hy with h1|h1
  ·exact h.ins y h1
  ·rw[V_.1 h1];exact hx
 ·have:=h.emp t ht;simp;omega
theorem lH.ac9 {g0 g:Heap} {u:aO} {m:cL} {code:List ez} {pc:Option Addr} {cc:Nat} {Bc:List Nat} {el:List Int} {pe:Option Addr} {ce:Nat} {Be:List Nat} {bb:Nat} {vb:Value} {q0 q:Int} {n:Nat} {ty:TypeId} {K:Value->Heap->Prop} (h:lH g0 g u m code pc cc Bc el pe ce Be) (r0:bC g0 bb vb q0) (r:bC g bb vb q) (t:Int) (ht:0<=t/\t<=(code.length:Int)) (hn:n=el.length) (hl:el.length<=999)
  (hk:∀ p' c' g' B',lH g0 g' u m code pc cc Bc (el++[t]) p' c' B'->(fZ g (Bc++Be)).le (fZ g' (Bc++B'))->bC g' bb vb q->K (.slice p' (el.length+1) c') (dz g' bb vb q)):App 8 1 [.int .i64 0] ty (dz g bb vb q) pe n ce 1 [.int .i64 t] K:=by
 subst hn;have fW:=h.in;refine vQ (k:=[t]) (g0:=g0) r0 r h.oe (λb hb=>h.fr b (by simp[hb])) h.le rfl (by simp;omega) (λp' c' g' B' k1 k2 k3 k4 ev=>?_);have tn:(el++[t]).length=el.length+1:=by simp
 rw[tn]at k3 ⊢;have evL:Ev g g' (Bc++Be) (Bc++B'):=ev.more Bc;refine hk p' c' g' B' ⟨k1,h.oc.aJ (ev.aJ λb hb hc=>wZ h.nd b hb hc),by rw[tn];exact k3,?_,λb hb=>?_,h.ins,λy hy=>?_,by rw[tn];omega⟩ (EU evL) k2
 ·exact Nd.swap h.nd k3.nd (λb hb=>(ev.new b hb).imp id λhn hm=>by
   obtain⟨o,ho⟩:=fW b (by simp[hm]);rw[hn]at ho;cases ho)
 ·rcases u_.1 hb with h1|h1
  ·exact h.fr b (by simp[h1])
  ·exact k4 b h1
 ·rcases u_.1 hy with h1|h1
  ·exact h.emp y h1
  ·rw[V_.1 h1];exact ht
theorem Tw {a b:Int} {K:Int->Prop} (a0:0<=a) (a1:a < 3) (b0:0<=b) (b1:b < 2) (hk:∀ c,0<=c->c<=2->K c):Ar .i64 (a*b) K:=by
 have hb:b=0\/b=1:=by omega
 rcases hb with rfl|rfl
 ·exact Kq (by omega) (by omega) (hk _ (by omega) (by omega))
 ·exact Kq (by omega) (by omega) (hk _ (by omega) (by omega))
theorem Jv {g:Heap} {bb:Nat} {vb:Value} {p:Int} (us ms:List Value) (u:aO) (m:cL) (Ax:Int) (r:bC g bb vb p) (hp:p<=50000000) (hu:dG g us u) (hm:eM g ms m) (hV:GI u) (hn:u.methods.length<=100) (hH:fQ u.J.length m) (Ic:0<=Ax/\Ax<=20) :
  Dr prog 148 [.pointer (some ⟨bb,0,none⟩),.agg ⟨us⟩,.agg ⟨ms⟩,.int .i64 Ax] g bb vb p 2000 λg' v=>∃ code pc cc Bc el pe ce Be,v=.tuple #[.slice pc code.length cc,.slice pe el.length ce]/\lH g g' u m code pc cc Bc el pe ce Be/\(code.length:Int)<=Ax:=by
 have ok:=hV.1;have zi:=ok.2.1;have tQ:=hH.2.2.2.2.1;have Ai:0<=m.locals:=by have:=hH.2.2.2.2.2;omega
 have fK:=hH.2.2.1;have zI:=λhh (hl:g.le hh)=>uz us ms m u.J.length hh (hm.le hl) hH zi;have GV:=λg' q (hl:g.le g') (r':bC g' bb vb q) hq=>ES us ms u m r' hq (hu.le hl) (hm.le hl) ok tQ hn;have aan:=λx s a b c d hh (hl:g.le hh) hI hs hk ha hb=>MJ us ms u m x s a b c d hh (hu.le hl) (hm.le hl) hV hI hs Ai tQ fK hk ha hb;obtain⟨cp,cc,q,d,rfl,hcs,fM,ji,hl2⟩:=hu.form;obtain⟨p1,c1,p2,c2,p3,c3,p4,c4,rfl,k1,k2,k3,k4,k5,k6,k7,k8,d1,d2,d3,d4⟩:=hm.form;refine bZ au func148 WD WE rfl ?_;conv=>whnf
 refine lV [] r rfl (λbc g1 hbc Uz l1 r1 e1=>?_);conv=>whnf
 refine lV [] r1 rfl (λbe g2 YQ nbe l2 r2 e2=>?_);conv=>whnf
 have HL:=y_ l1 l2;have cH:bc≠be:=by rintro rfl;rw[YQ]at e1;cases e1
 have tZ:lH g g2 u m [] (some ⟨bc,0,none⟩) 0 [bc] [] (some ⟨be,0,none⟩) 0 [be]:=by
  refine⟨HL,dX (l2 bc _ e1),dX e2,λa=>?_,λb hb=>?_,by simp,by simp,by simp⟩
  ·simp only[Y_,X_,List.count_nil];by_cases h1:bc=a
   ·have:¬be=a:=by omega
    simp[h1,this]
   ·simp[h1];split<;>omega
  ·simp at hb;rcases hb with rfl|rfl
   ·exact hbc
   ·exact br l1 YQ
 refine MK r2 tZ.in (zI _ (zM HL tZ.fr)) (λv g3 l3 r3 hr=>?_);refine hr.elim λq1 hr=>hr.elim λx1 hr=>hr.elim λq2 hr=>hr.elim λx2 hr=>?_;have hv:=hr.1;subst hv;have Q6:=hr.2;have s7:=tZ.aJ l3;conv=>whnf
 refine fh [0,3,5,6,10,11,12,13] [5,6,12] (λy:(Heap × Int × Nat) × (List ez × Option Addr × Nat × List Nat) × (List Int × Option Addr × Nat × List Nat) × (dY × Option Addr × Nat × Option Addr × Nat)=>y.1.2.2<=40/\bC y.1.1 bb vb y.1.2.1/\p<=y.1.2.1/\y.1.2.1<=p+2+30*(y.1.2.2:Int)/\lH g y.1.1 u m y.2.1.1 y.2.1.2.1 y.2.1.2.2.1 y.2.1.2.2.2 y.2.2.1.1 y.2.2.1.2.1 y.2.2.1.2.2.1 y.2.2.1.2.2.2/\tq (fZ y.1.1 (y.2.1.2.2.2++y.2.2.1.2.2.2)) y.2.2.2.1 y.2.2.2.2.1 y.2.2.2.2.2.2.1 y.2.2.2.2.2.1 y.2.2.2.2.2.2.2/\rP u.J.length m.locals y.2.2.2.1/\(y.2.1.1.length:Int)+y.2.2.2.1.stack.length<=Ax/\y.2.2.1.1.length<=y.1.2.2) (λy=>40-y.1.2.2)
  (λy=>([.v (.pointer (some ⟨bb,0,none⟩)),.v (.int .i64 Ax),.l 5 0,.l 6 0,.v (.slice y.2.1.2.1 y.2.1.1.length y.2.1.2.2.1),.v (.slice y.2.2.1.2.1 y.2.2.1.1.length y.2.2.1.2.2.1),.l 12 0,.v (.int .i64 y.1.2.2)],
   [some [.slice cp u.J.length cc,.slice q u.methods.length d],some [.int .i64 m.cls,.int .i64 m.fG,.slice p1 m.args.length c1,.int .i64 m.out,.int .i64 m.locals,.slice p2 m.code.length c2,.slice p3 m.aQ.length c3,.slice p4 m.catches.length c4],some [.bool y.2.2.2.1.told,.slice y.2.2.2.2.1 y.2.2.2.1.locals.length y.2.2.2.2.2.1,.slice y.2.2.2.2.2.2.1 y.2.2.2.1.stack.length y.2.2.2.2.2.2.2]],dz y.1.1 bb vb y.1.2.1))
  ((g3,p,0),([],some ⟨bc,0,none⟩,0,[bc]),([],some ⟨be,0,none⟩,0,[be]),(jt m,q1,x1,q2,x2)) ⟨by simp only;omega,r3,by simp only;omega,by simp only;omega,s7,Q6,rR hH zi,by simp[jt];omega,by simp⟩ rfl ?_
 rintro⟨⟨g4,q4,i⟩,⟨code,pc,kc,Bc⟩,⟨el,pe,ke,Be⟩,⟨s,y1,y2,y3,y4⟩⟩ ⟨hi,r4,qL,s9,hB,hI,hs,hlen,LH⟩;simp only at hi r4 qL s9 hB hI hs hlen LH ⊢;conv=>whnf
 apply ax<;>intro g5;all_goals conv=>whnf
 ·have hs4:=hs.len;refine ah ?_;conv=>whnf
  apply ax<;>intro g6;all_goals conv=>whnf
  ·apply ax<;>intro g7;all_goals conv=>whnf
   ·refine hB.ac9 r r4 code.length ⟨by omega,by omega⟩ rfl (by omega) (λpe2 ke2 g8 UA Ie l8 r8=>?_);conv=>whnf
    repeat' ((first|refine cx ?_|refine bH ?_|refine dF ?_|refine cN ?_)<;>conv=>whnf)
    refine gY (by assumption) (GV g8 _ Ie.le (by assumption) (by omega)) (λv g9 q9 l9 r9 h1 h2 hA=>?_);refine hA.elim λkk hA=>hA.elim λaa hA=>hA.elim λbx hA=>?_;have hv:=hA.1;subst hv;have hA:=hA.2;have Pw:=Ie.aJ l9;have hc:=aan ⟨kk,aa,bx⟩ s y1 y3 y2 y4 (fZ g9 (Bc++UA)) (zM Pw.le Pw.fr) ((hI.le l8).le (eg _ l9)) hs hA.1 hA.2.2.2.1 hA.2.2.2.2;conv=>whnf
    refine MK r9 Pw.in hc (λv Dp Fw iM hr=>?_);have C3:=Pw.aJ Fw;refine hr.elim λres hr=>?_;cases res with
    | none =>
     have hr:=hr.1;refine hr.elim λw1 hr=>hr.elim λw2 hr=>hr.elim λw3 hr=>hr.elim λw4 hr=>hr.elim λw5 hr=>hr.elim λw6 hr=>hr.elim λw7 hv=>?_;subst hv;conv=>whnf
     refine ah ?_;conv=>whnf
     exact dm ((Dp,q9,i+1),(code,pc,kc,Bc),(el++[(code.length:Int)],pe2,ke2,UA),(s,y1,y2,y3,y4)) ⟨by simp only;omega,iM,by simp only;omega,by simp only;omega,C3,((hI.le l8).le (eg _ l9)).le (eg _ Fw),hs,hlen,by (simp;omega)⟩ (by simp only;omega) (by simp only[U_];rfl)
    | some y =>
     have hy:=hr.2 y rfl;have hr:=hr.1;refine hr.elim λw1 hr=>hr.elim λw2 hr=>hr.elim λw3 hr=>hr.elim λw4 hr=>?_;have hv:=hr.1;subst hv;have Tx:tq (fZ Dp (Bc++UA)) y w1 w3 w2 w4:=hr.2;have hy4:=hy.1.len;have same:∀(t:List Slot × List (Option (List Value)) × Heap),True:=λ_=>trivial;conv=>whnf
     refine ah ?_;conv=>whnf
     refine ah ?_;conv=>whnf
     apply ax<;>intro gm;all_goals conv=>whnf
     ·apply aT<;>intro gk;all_goals conv=>whnf
      ·refine C3.app r iM ⟨kk,aa,bx⟩ (.inl ⟨hy.2.2,hA.2.1,hA.2.2.1,gk⟩) rfl (by omega) rfl (Nat.le_of_ble_eq_true rfl) (λPx Fx Ty Py GY l11 C0=>?_);conv=>whnf
       refine ah ?_;conv=>whnf
       exact dm ((Ty,q9,i+1),(code++[⟨kk,aa,bx⟩],Px,Fx,Py),(el++[(code.length:Int)],pe2,ke2,UA),(y,w1,w2,w3,w4)) ⟨by simp only;omega,C0,by simp only;omega,by simp only;omega,GY,Tx.le l11,hy.1,by simp only[U_,List.length_singleton];omega,by (simp;omega)⟩ (by simp only;omega) (by simp only[U_];rfl)
      ·refine ah ?_;conv=>whnf
       exact dm ((Dp,q9,i+1),(code,pc,kc,Bc),(el++[(code.length:Int)],pe2,ke2,UA),(s,y1,y2,y3,y4)) ⟨by simp only;omega,iM,by simp only;omega,by simp only;omega,C3,((hI.le l8).le (eg _ l9)).le (eg _ Fw),hs,hlen,by (simp;omega)⟩ (by simp only;omega) (by simp only[U_];rfl)
     ·refine ah ?_;conv=>whnf
      exact dm ((Dp,q9,i+1),(code,pc,kc,Bc),(el++[(code.length:Int)],pe2,ke2,UA),(s,y1,y2,y3,y4)) ⟨by simp only;omega,iM,by simp only;omega,by simp only;omega,C3,((hI.le l8).le (eg _ l9)).le (eg _ Fw),hs,hlen,by (simp;omega)⟩ (by simp only;omega) (by simp only[U_];rfl)
   ·have hI0:=hI.le (ET _ _);have Fl:s.stack.length-1 < s.stack.length:=by omega
    obtain⟨b1,o1,w1,_⟩:=hI0.2.at Fl;have cP:∀(j:Nat) (qq:Int) (hj:j < s.stack.length),rd (dz g4 bb vb qq) b1 (o1+j*1)=some (.int .i64 s.stack[j]):=λj qq hj=>by
     obtain⟨b2,o2,w2,a2⟩:=hI0.2.at hj;rw[w1]at w2;simp only[v_,Addr.mk.injEq]at w2;obtain⟨rfl,rfl,_⟩:=w2;exact aX (aY r4.free) a2
    repeat' ((first|refine cx ?_|refine bH ?_|refine dF ?_|refine cN ?_|apply ax<;>intro _|refine bF (by assumption) (by omega) (λz z0 z1 z2 r5=>?_)|refine ah ?_|refine aq ?_|refine aG w1 ?_|refine ld (cP _ _ (by omega)) ?_|refine Ts (by assumption) (uZ _ _) ?_|refine Tw (by omega) (by omega) (by omega) (by omega) (λw w0 w1=>?_)|refine hB.app r (by assumption) ⟨_,_,0⟩ (.inr ⟨⟨by simp only;omega,by simp only;omega⟩,⟨by simp only;omega,by simp only;omega⟩,rfl⟩) rfl (by omega) rfl (Nat.le_of_ble_eq_true rfl) (λPx Fx g8 Py Ie l8 r8=>?_)|refine lV [] r8 rfl (λbn g9 hbn nbn l9 r9 e9=>?_))<;>conv=>whnf)
    all_goals first
     | (refine dm ((g9,_,i+1),(_,Px,Fx,Py),(el,pe,ke,Be),(⟨s.told,s.locals,[]⟩,y1,y2,some ⟨bn,0,none⟩,0)) ⟨by simp only;omega,r9,by simp only;omega,by simp only;omega,Ie.aJ l9,⟨(hI.1.le l8).le (eg _ l9),iP _ _ _⟩,⟨hs.loc,hs.gj,λt ht=>(by cases ht),by simp⟩,by simp;omega,by simp only;omega⟩ (by simp only;omega) (by simp only[U_];rfl);done)
     | skip
    all_goals
     refine gY (by assumption) (GV g4 _ hB.le (by assumption) (by omega)) (λv g9 q9 l9 r9 h1 h2 hA=>?_);refine hA.elim λkk hA=>hA.elim λaa hA=>hA.elim λbx hA=>?_;have hv:=hA.1;subst hv;have hA:=hA.2;have Pw:=hB.aJ l9;have hc:=aan ⟨kk,aa,bx⟩ s y1 y3 y2 y4 (fZ g9 (Bc++Be)) (zM Pw.le Pw.fr) (hI.le (eg _ l9)) hs hA.1 hA.2.2.2.1 hA.2.2.2.2;conv=>whnf
     refine MK r9 Pw.in hc (λv Dp Fw iM hr=>?_);have C3:=Pw.aJ Fw;refine hr.elim λres hr=>?_;cases res with
     | none =>
      have hr:=hr.1;refine hr.elim λw1 hr=>hr.elim λw2 hr=>hr.elim λw3 hr=>hr.elim λw4 hr=>hr.elim λw5 hr=>hr.elim λw6 hr=>hr.elim λw7 hv=>?_;subst hv;conv=>whnf
      refine ah ?_;conv=>whnf
      exact dm ((Dp,q9,i+1),(code,pc,kc,Bc),(el,pe,ke,Be),(s,y1,y2,y3,y4)) ⟨by simp only;omega,iM,by simp only;omega,by simp only;omega,C3,(hI.le (eg _ l9)).le (eg _ Fw),hs,hlen,by (simp only;omega)⟩ (by simp only;omega) rfl
     | some y =>
      have hy:=hr.2 y rfl;have hr:=hr.1;refine hr.elim λw1 hr=>hr.elim λw2 hr=>hr.elim λw3 hr=>hr.elim λw4 hr=>?_;have hv:=hr.1;subst hv;have Tx:tq (fZ Dp (Bc++Be)) y w1 w3 w2 w4:=hr.2;have hy4:=hy.1.len;have same:∀(t:List Slot × List (Option (List Value)) × Heap),True:=λ_=>trivial;conv=>whnf
      refine ah ?_;conv=>whnf
      refine ah ?_;conv=>whnf
      apply ax<;>intro gm;all_goals conv=>whnf
      ·apply aT<;>intro gk;all_goals conv=>whnf
       ·refine C3.app r iM ⟨kk,aa,bx⟩ (.inl ⟨hy.2.2,hA.2.1,hA.2.2.1,gk⟩) rfl (by omega) rfl (Nat.le_of_ble_eq_true rfl) (λPx Fx Ty Py GY l11 C0=>?_);conv=>whnf
        refine ah ?_;conv=>whnf
        exact dm ((Ty,q9,i+1),(code++[⟨kk,aa,bx⟩],Px,Fx,Py),(el,pe,ke,Be),(y,w1,w2,w3,w4)) ⟨by simp only;omega,C0,by simp only;omega,by simp only;omega,GY,Tx.le l11,hy.1,by simp only[U_,List.length_singleton];omega,by (simp only;omega)⟩ (by simp only;omega) (by simp only[U_];rfl)
       ·refine ah ?_;conv=>whnf
        exact dm ((Dp,q9,i+1),(code,pc,kc,Bc),(el,pe,ke,Be),(s,y1,y2,y3,y4)) ⟨by simp only;omega,iM,by simp only;omega,by simp only;omega,C3,(hI.le (eg _ l9)).le (eg _ Fw),hs,hlen,by (simp only;omega)⟩ (by simp only;omega) rfl
      ·refine ah ?_;conv=>whnf
       exact dm ((Dp,q9,i+1),(code,pc,kc,Bc),(el,pe,ke,Be),(s,y1,y2,y3,y4)) ⟨by simp only;omega,iM,by simp only;omega,by simp only;omega,C3,(hI.le (eg _ l9)).le (eg _ Fw),hs,hlen,by (simp only;omega)⟩ (by simp only;omega) rfl
  ·have hs9:=hs.len;refine fh [10,11,18] [] (λy:Heap × Int × (List ez × Option Addr × Nat × List Nat)=>0<=y.2.1/\y.2.1<=4/\bC y.1 bb vb q4/\lH g y.1 u m y.2.2.1 y.2.2.2.1 y.2.2.2.2.1 y.2.2.2.2.2 el pe ke Be/\(y.2.2.1.length:Int)+y.2.1<=Ax) (λy=>y.2.1.toNat)
    (λy=>([.v (.slice y.2.2.2.1 y.2.2.1.length y.2.2.2.2.1),.v (.slice pe el.length ke),.v (.int .i64 y.2.1)],[],dz y.1 bb vb q4))
    (g4,s.stack.length,(code,pc,kc,Bc)) ⟨by simp only;omega,by simp only;omega,r4,hB,by simp only;omega⟩ rfl ?_
   rintro⟨g8,Sf,⟨EW,pc8,kc8,Bc8⟩⟩ ⟨ha,hb,r8,Ie,NZ⟩;simp only at ha hb r8 Ie NZ ⊢;conv=>whnf
   apply ax<;>intro ge;all_goals conv=>whnf
   ·refine Ie.app r r8 ⟨5,0,0⟩ (.inl ⟨(aI (p:=0) (q:=0) rfl).2 ⟨rfl,rfl⟩,by simp,by simp,by simp⟩) rfl (by omega) rfl (Nat.le_of_ble_eq_true rfl) (λPx Fx Ty Py GY l11 C0=>?_);conv=>whnf
    refine ah ?_;conv=>whnf
    exact dm (Ty,Sf-1,(EW++[⟨5,0,0⟩],Px,Fx,Py)) ⟨by simp only;omega,by simp only;omega,C0,GY,by simp only[U_,List.length_singleton];omega⟩ (by simp only;omega) (by simp only[U_];rfl)
   ·exact⟨_,_,rfl,Ie.le,r8.free,by omega,by omega,EW,pc8,kc8,Bc8,el,pe,ke,Be,rfl,Ie,by omega⟩
 ·have hs9:=hs.len;refine fh [10,11,18] [] (λy:Heap × Int × (List ez × Option Addr × Nat × List Nat)=>0<=y.2.1/\y.2.1<=4/\bC y.1 bb vb q4/\lH g y.1 u m y.2.2.1 y.2.2.2.1 y.2.2.2.2.1 y.2.2.2.2.2 el pe ke Be/\(y.2.2.1.length:Int)+y.2.1<=Ax) (λy=>y.2.1.toNat)
   (λy=>([.v (.slice y.2.2.2.1 y.2.2.1.length y.2.2.2.2.1),.v (.slice pe el.length ke),.v (.int .i64 y.2.1)],[],dz y.1 bb vb q4))
   (g4,s.stack.length,(code,pc,kc,Bc)) ⟨by simp only;omega,by simp only;omega,r4,hB,by simp only;omega⟩ rfl ?_
  rintro⟨g8,Sf,⟨EW,pc8,kc8,Bc8⟩⟩ ⟨ha,hb,r8,Ie,NZ⟩;simp only at ha hb r8 Ie NZ ⊢;conv=>whnf
  apply ax<;>intro ge;all_goals conv=>whnf
  ·refine Ie.app r r8 ⟨5,0,0⟩ (.inl ⟨(aI (p:=0) (q:=0) rfl).2 ⟨rfl,rfl⟩,by simp,by simp,by simp⟩) rfl (by omega) rfl (Nat.le_of_ble_eq_true rfl) (λPx Fx Ty Py GY l11 C0=>?_);conv=>whnf
   refine ah ?_;conv=>whnf
   exact dm (Ty,Sf-1,(EW++[⟨5,0,0⟩],Px,Fx,Py)) ⟨by simp only;omega,by simp only;omega,C0,GY,by simp only[U_,List.length_singleton];omega⟩ (by simp only;omega) (by simp only[U_];rfl)
  ·exact⟨_,_,rfl,Ie.le,r8.free,by omega,by omega,EW,pc8,kc8,Bc8,el,pe,ke,Be,rfl,Ie,by omega⟩
def xY (g g':Heap):Prop:=∀ b off x,rd g b off=some (.int .i64 x)->cY x->∃ x',rd g' b off=some (.int .i64 x')/\cY x'
structure xN (g g':Heap):Prop where
 int:xY g g'
 bool:∀ b off x,rd g b off=some (.bool x)->∃ x',rd g' b off=some (.bool x')
 row:∀ b off v l,rd g b off=some v->dy g v l->∃ v' l',rd g' b off=some v'/\dy g' v' l'
theorem jT {α:Type} {Q:Nat->α->Prop}:∀ n:Nat,(∀ i,i < n->∃ a,Q i a)->∃ l:List α,l.length=n/\∀ i x,l[i]? = some x->Q i x
 | 0,_=>⟨[],rfl,by simp⟩
 | n+1,hq=>by
  obtain⟨l,hl,hx⟩:=jT n (λi hi=>hq i (by omega));obtain⟨a,ha⟩:=hq n (by omega);refine⟨l++[a],by simp[hl],λi x hi=>?_⟩;by_cases h1:i < n
  ·rw[List.getElem?_append_left (by omega)]at hi;exact hx i x hi
  ·rw[List.getElem?_append_right (by omega)]at hi;have h2:i=n:=by
    have:=(List.getElem?_eq_some_iff.1 hi).1;simp at this;omega
   subst h2;rw[hl,Nat.sub_self]at hi;simp at hi;subst hi;exact ha
def EX {α:Type} (g g':Heap) (sz:Nat) (R:Heap->List Value->α->Prop):Prop:=∀ b off vs x,fj g b off sz=some vs->R g vs x->∃ og x',fj g' b off sz=some og/\R g' og x'
theorem jg {α:Type} {g g':Heap} {sz:Nat} {R:Heap->List Value->α->Prop} (hR:EX g g' sz R) {v:Value} {l:List α} (hr:Row sz R g v l):∃ l',Row sz R g' v l'/\l'.length=l.length:=by
 obtain⟨h1,p,c,rfl,h2,h3⟩:=hr;rcases h3 with rfl|⟨b,off,rfl,hx⟩
 ·exact⟨[],⟨by simp,p,c,rfl,by simp,.inl rfl⟩,rfl⟩
 ·obtain⟨l',hl,tn⟩:=jT (Q:=λi x=>∃ vs,fj g' b (off+i*sz) sz=some vs/\R g' vs x) l.length (λi hi=>by
   obtain⟨vs,e1,e2⟩:=hx i l[i] (by simp[hi]);obtain⟨og,x',e3,e4⟩:=hR _ _ _ _ e1 e2;exact⟨x',og,e3,e4⟩)
  exact⟨l',⟨by omega,_,c,by rw[hl],by omega,.inr ⟨b,off,rfl,tn⟩⟩,hl⟩
theorem mF {h:Heap} {b off:Nat} {v:Value} (hv:rd h b off=some v):fj h b off 1=some [v]:=by simp[fj,hv]
theorem er {h:Heap} {b off n:Nat} {v:Value} {vs:List Value} (hv:rd h b off=some v) (hr:fj h b (off+1) n=some vs):fj h b off (n+1)=some (v::vs):=by simp only[fj,hv,hr]
theorem dI {h:Heap} {b off n:Nat} {v:Value} {vs:List Value} (hr:fj h b off (n+1)=some (v::vs)):rd h b off=some v/\fj h b (off+1) n=some vs:=by
 simp only[fj]at hr;split at hr
 ·rename_i a r h1 h2;simp only[v_,List.cons.injEq]at hr;obtain⟨rfl,rfl⟩:=hr;exact⟨h1,h2⟩
 ·cases hr
theorem Pz {g g':Heap} (a:xY g g'):EX g g' 1 YD:=by
 rintro b off vs x hv ⟨rfl,hx⟩;obtain⟨h1,_⟩:=dI hv;obtain⟨x',e1,e2⟩:=a _ _ _ h1 hx;exact⟨_,x',mF e1,rfl,e2⟩
theorem gD {g g':Heap} (a:xY g g') {v:Value} {l:List Int} (hr:dy g v l):∃ l',dy g' v l'/\l'.length=l.length:=jg (Pz a) hr
theorem yl {g g':Heap} (a:xY g g'):EX g g' 3 DU:=by
 rintro b off vs x hv ⟨rfl,i1,i2,i3⟩;obtain⟨h1,hv⟩:=dI hv;obtain⟨h2,hv⟩:=dI hv;obtain⟨h3,_⟩:=dI hv;obtain⟨x1,e1,j1⟩:=a _ _ _ h1 i1;obtain⟨x2,e2,j2⟩:=a _ _ _ h2 i2;obtain⟨x3,e3,j3⟩:=a _ _ _ h3 i3;exact⟨_,⟨x1,x2,x3⟩,er e1 (er e2 (mF e3)),rfl,j1,j2,j3⟩
theorem ym {g g':Heap} (a:xY g g'):EX g g' 4 DV:=by
 rintro b off vs x hv ⟨rfl,i1,i2,i3,i4⟩;obtain⟨h1,hv⟩:=dI hv;obtain⟨h2,hv⟩:=dI hv;obtain⟨h3,hv⟩:=dI hv;obtain⟨h4,_⟩:=dI hv;obtain⟨x1,e1,j1⟩:=a _ _ _ h1 i1;obtain⟨x2,e2,j2⟩:=a _ _ _ h2 i2;obtain⟨x3,e3,j3⟩:=a _ _ _ h3 i3;obtain⟨x4,e4,j4⟩:=a _ _ _ h4 i4;exact⟨_,⟨x1,x2,x3,x4⟩,er e1 (er e2 (er e3 (mF e4))),rfl,j1,j2,j3,j4⟩
theorem PA {g g':Heap} (a:xN g g'):EX g g' 3 mV:=by
 rintro b off vs x hv ⟨l1,l2,rfl,i1,i2⟩;obtain⟨h1,hv⟩:=dI hv;obtain⟨h2,hv⟩:=dI hv;obtain⟨h3,_⟩:=dI hv;obtain⟨x1,e1⟩:=a.bool _ _ _ h1;obtain⟨v1,m1,e2,j1⟩:=a.row _ _ _ _ h2 i1;obtain⟨v2,m2,e3,j2⟩:=a.row _ _ _ _ h3 i2;exact⟨_,⟨x1,m1,m2⟩,er e1 (er e2 (mF e3)),_,_,rfl,j1,j2⟩
theorem PB {g g':Heap} (a:xN g g') {vs:List Value} {m:cL} (hm:eM g vs m):∃ m',eM g' vs m'/\m'.code.length=m.code.length/\m'.aQ.length=m.aQ.length:=by
 obtain⟨a1,c,s,k,rfl,h1,h2,h3,h4,h5,h6,h7,h8⟩:=hm;obtain⟨l5,e5,_⟩:=gD a.int h5;obtain⟨l6,e6,n6⟩:=jg (yl a.int) h6;obtain⟨l7,e7,n7⟩:=jg (PA a) h7;obtain⟨l8,e8,_⟩:=jg (ym a.int) h8;exact⟨⟨m.cls,m.fG,l5,m.out,m.locals,l6,l7,l8⟩,⟨a1,c,s,k,rfl,h1,h2,h3,h4,e5,e6,e7,e8⟩,n6,n7⟩
theorem xN.of_le {g g':Heap} (hl:g.le g'):xN g g' where
 int:=λ_ _ x h i=>⟨x,aX hl h,i⟩
 bool:=λ_ _ x h=>⟨x,aX hl h⟩
 row:=λ_ _ v l h i=>⟨v,l,aX hl h,i.le hl⟩
theorem xN.trans {g g1 g2:Heap} (a:xN g g1) (c:xN g1 g2):xN g g2 where
 int:=λb off x h i=>by
  obtain⟨y,h1,i1⟩:=a.int b off x h i;exact c.int b off y h1 i1
 bool:=λb off x h=>by
  obtain⟨y,h1⟩:=a.bool b off x h;exact c.bool b off y h1
 row:=λb off v l h i=>by
  obtain⟨v1,l1,h1,i1⟩:=a.row b off v l h i;exact c.row b off v1 l1 h1 i1
theorem xO {g:Heap} {b off:Nat} {cs:List Value} {t:TypeId} {x y:Int} (hb:g b=some (.cells cs.toArray t (0,0))) (hx:cs[off]? = some (.int .i64 x)) (hy:cY y):xN g (g.set b (.cells (cs.set off (.int .i64 y)).toArray t (0,0))):=by
 have gE:off < cs.length:=(List.getElem?_eq_some_iff.1 hx).1;have other:∀ b' eJ,¬(b'=b/\eJ=off)->rd (g.set b (.cells (cs.set off (.int .i64 y)).toArray t (0,0))) b' eJ=rd g b' eJ:=by
  intro b' eJ cH;by_cases e:b'=b
  ·subst e;have:eJ≠off:=λe=>cH ⟨rfl,e⟩;rw[mU];simp only[rd,hb,List.getElem?_toArray];rw[List.getElem?_set_ne (λe=>this e.symm)]
  ·exact nO e
 have same:rd (g.set b (.cells (cs.set off (.int .i64 y)).toArray t (0,0))) b off=some (.int .i64 y):=by
  rw[mU];simp[gE]
 have iB:rd g b off=some (.int .i64 x):=by simp[rd,hb,hx]
 have ai:xY g (g.set b (.cells (cs.set off (.int .i64 y)).toArray t (0,0))):=λb' eJ z hz i=>by
  by_cases e:b'=b/\eJ=off
  ·obtain⟨rfl,rfl⟩:=e;exact⟨y,same,hy⟩
  ·exact⟨z,by rw[other _ _ e];exact hz,i⟩
 refine⟨ai,λb' eJ z hz=>?_,λb' eJ v l hv i=>?_⟩
 ·have e:¬(b'=b/\eJ=off):=by
   rintro⟨rfl,rfl⟩;rw[iB]at hz;cases hz
  exact⟨z,by rw[other _ _ e];exact hz⟩
 ·have e:¬(b'=b/\eJ=off):=by
   rintro⟨rfl,rfl⟩;rw[iB]at hv;obtain⟨_,p,c,h2,_⟩:=i;rw[<-Option.some.inj hv]at h2;cases h2
  obtain⟨l',i',_⟩:=gD ai i;exact⟨v,l',by rw[other _ _ e];exact hv,i'⟩
theorem EY {g:Heap} {b:Nat} {pre post:List Value} {t:TypeId} {tv ML:Bool} {p q:Option Addr} {n c k d:Nat} {v1 v2:Value} {l1 l2:List Int} (hb:g b=some (.cells (pre++[Value.bool tv,.slice p n c,.slice q k d]++post).toArray t (0,0)))
  (h1:dy g v1 l1) (h2:dy g v2 l2):xN g (g.set b (.cells (pre++[Value.bool ML,v1,v2]++post).toArray t (0,0))):=by
 have iB:∀ i v,[Value.bool tv,.slice p n c,.slice q k d][i]? = some v->rd g b (pre.length+i)=some v:=λi v hv=>bE hb rfl hv;have ko:(g.set b (.cells (pre++[Value.bool ML,v1,v2]++post).toArray t (0,0))) b=some (.cells (pre++[Value.bool ML,v1,v2]++post).toArray t (0,0)):=dh _ _ _;have same:∀ i v,[Value.bool ML,v1,v2][i]? = some v->rd (g.set b (.cells (pre++[Value.bool ML,v1,v2]++post).toArray t (0,0))) b (pre.length+i)=some v:=λi v hv=>bE ko rfl hv;have other:∀ b' eJ,¬(b'=b/\pre.length<=eJ/\eJ < pre.length+3)->rd (g.set b (.cells (pre++[Value.bool ML,v1,v2]++post).toArray t (0,0))) b' eJ=rd g b' eJ:=by
  intro b' eJ cH;by_cases e:b'=b
  ·subst e;rw[mU];simp only[rd,hb,List.getElem?_toArray];by_cases e1:eJ < pre.length
   ·rw[List.append_assoc,List.append_assoc,List.getElem?_append_left e1,List.getElem?_append_left e1]
   ·have e2:pre.length+3<=eJ:=by
     rcases Nat.lt_or_ge eJ (pre.length+3)with h|h
     ·exact absurd ⟨rfl,by omega,h⟩ cH
     ·exact h
    rw[List.getElem?_append_right (by simp;omega),List.getElem?_append_right (by simp;omega)];simp
  ·exact nO e
 have at3:∀ eJ,pre.length<=eJ/\eJ < pre.length+3->eJ=pre.length+0\/eJ=pre.length+1\/eJ=pre.length+2:=by intro eJ h;omega
 have ai:xY g (g.set b (.cells (pre++[Value.bool ML,v1,v2]++post).toArray t (0,0))):=λb' eJ z hz i=>by
  by_cases e:b'=b/\pre.length<=eJ/\eJ < pre.length+3
  ·obtain⟨rfl,e⟩:=e;rcases at3 _ e with rfl|rfl|rfl
   ·rw[iB 0 _ rfl]at hz;cases hz
   ·rw[iB 1 _ rfl]at hz;cases hz
   ·rw[iB 2 _ rfl]at hz;cases hz
  ·exact⟨z,by rw[other _ _ e];exact hz,i⟩
 refine⟨ai,λb' eJ z hz=>?_,λb' eJ v l hv i=>?_⟩
 ·by_cases e:b'=b/\pre.length<=eJ/\eJ < pre.length+3
  ·obtain⟨rfl,e⟩:=e;rcases at3 _ e with rfl|rfl|rfl
   ·exact⟨ML,same 0 _ rfl⟩
   ·rw[iB 1 _ rfl]at hz;cases hz
   ·rw[iB 2 _ rfl]at hz;cases hz
  ·exact⟨z,by rw[other _ _ e];exact hz⟩
 ·by_cases e:b'=b/\pre.length<=eJ/\eJ < pre.length+3
  ·obtain⟨rfl,e⟩:=e;rcases at3 _ e with rfl|rfl|rfl
   ·rw[iB 0 _ rfl]at hv;obtain⟨_,p,c,h2,_⟩:=i;rw[<-Option.some.inj hv]at h2;cases h2
   ·obtain⟨l',i',_⟩:=gD ai h1;exact⟨v1,l',same 1 _ rfl,i'⟩
   ·obtain⟨l',i',_⟩:=gD ai h2;exact⟨v2,l',same 2 _ rfl,i'⟩
  ·obtain⟨l',i',_⟩:=gD ai i;exact⟨v,l',by rw[other _ _ e];exact hv,i'⟩
theorem sq (us:List Value) (u:aO) (m:cL) (h:Heap) (p1 p2 p3 p4:Option Addr) (n1 n2 n3 n4 c1 c2 c3 c4:Nat) (hu:dG h us u) (hm:eM h [.int .i64 m.cls,.int .i64 m.fG,.slice p1 n1 c1,.int .i64 m.out,.int .i64 m.locals,.slice p2 n2 c2,.slice p3 n3 c3,.slice p4 n4 c4] m) (hV:GI u) (hM:Td u m) :
  bI prog 109 [.agg ⟨us⟩,.agg #[.int .i64 m.cls,.int .i64 m.fG,.slice p1 n1 c1,.int .i64 m.out,.int .i64 m.locals,.slice p2 n2 c2,.slice p3 n3 c3,.slice p4 n4 c4]] h
   λv h'=>h.le h'/\∃ b c A,v=.agg #[.int .i64 m.cls,.int .i64 m.fG,.slice p1 n1 c1,.int .i64 m.out,.int .i64 m.locals,.slice p2 n2 c2,.slice (some ⟨b,0,none⟩) A.length c,.slice p4 n4 c4]/\jf h h' b c A/\A.length=m.code.length/\rV u.J.length m.locals A:=by
 have iw:=hu;have lI:=hM.len;have Tz:=λms m' hh (hl:h.le hh) hm' K3=>GM us ms u m' hh (hu.le hl) hm' hV K3;obtain⟨p,cc,q,d,rfl,hcs,fM,ji,hl2⟩:=hu.form;obtain⟨a0,c0,s0,k0,hq,i1,i2,i3,i4,r1,r2,r3,r4⟩:=hm;simp only[List.cons.injEq,and_true,true_and]at hq;obtain⟨rfl,rfl,rfl,rfl⟩:=hq;obtain⟨_,_,e2,_,_⟩:=r2.len;simp only[Z_]at e2;obtain⟨_,e2,_⟩:=e2;subst e2;refine bZ au func109 VD VE rfl ?_;conv=>whnf
 refine ec [] rfl (λb0 h1 tZ e0 l1 g0=>?_);conv=>whnf
 have o0:cr 3 h1 (.slice (some ⟨b0,0,none⟩) 0 0) [] [b0]:=⟨by simp,.inr ⟨b0,0,[],_,rfl,by simp,by simpa using g0,by simp,rfl⟩⟩
 refine fh [2,3,4,5] [2,3,4] (λy:Nat × Heap × Option Addr × Nat × List (List Value) × List Nat=>y.1<=m.code.length/\h.le y.2.1/\cr 3 y.2.1 (.slice y.2.2.1 y.1 y.2.2.2.1) y.2.2.2.2.1 y.2.2.2.2.2/\y.2.2.2.2.1.length=y.1/\(∀ r∈y.2.2.2.2.1,Bz r)/\∀ b∈y.2.2.2.2.2,h b=none) (λy=>m.code.length-y.1)
  (λy=>([.l 2 0,.l 3 0,.l 4 0,.v (.int .i64 y.1)],
   [some [.slice p u.J.length cc,.slice q u.methods.length d],some [.int .i64 m.cls,.int .i64 m.fG,.slice p1 n1 c1,.int .i64 m.out,.int .i64 m.locals,.slice p2 m.code.length c2,.slice y.2.2.1 y.1 y.2.2.2.1,.slice p4 n4 c4],some [.int .i64 0,.int .i64 0,.slice none 0 0,.int .i64 0,.int .i64 0,.slice none 0 0,.slice none 0 0,.slice none 0 0]],y.2.1))
  (0,h1,some ⟨b0,0,none⟩,0,[],[b0]) ⟨by omega,l1,o0,rfl,by simp,by simpa using tZ⟩ rfl ?_
 rintro⟨k,h2,pa,ca,aS,B⟩ ⟨hk,l2,o2,n2',yV,f2⟩;simp only at hk l2 o2 n2' yV f2 ⊢;conv=>whnf
 apply ax<;>intro g;all_goals conv=>whnf
 ·refine cX (kM h2) (λv h3 hh=>?_);have l3:=hh.1;refine⟨l3,hh.2.elim λb1 hh=>hh.elim λb2 hv=>?_⟩;subst hv;conv=>whnf
  refine dA (h0:=h) (xs:=aS) (ys:=[[.bool false,.slice (some ⟨b1,0,none⟩) 0 0,.slice (some ⟨b2,0,none⟩) 0 0]]) (B:=B) (o2.aJ (cR.of_le l3 _)) f2 (y_ l2 l3) rfl rfl (by simp) rfl rfl (by simp;omega) (by simp;omega) ?_;intro v4 h4 B4 w1 w2 w3 w4 w5;have ff:=w2.form;refine ff.elim λp5 ff=>ff.elim λc5 hf=>?_;have hv4:=hf.1;have Uv:(aS++[[Value.bool false,.slice (some ⟨b1,0,none⟩) 0 0,.slice (some ⟨b2,0,none⟩) 0 0]]).length=k+1:=by simp[n2']
  rw[Uv]at hv4;subst hv4;conv=>whnf
  refine ah ?_;conv=>whnf
  refine dm (k+1,h4,p5,c5,aS++[[.bool false,.slice (some ⟨b1,0,none⟩) 0 0,.slice (some ⟨b2,0,none⟩) 0 0]],B4) ⟨by simp only;omega,w1,w2,Uv,λr hr=>?_,w3⟩ (by simp only;omega) rfl;rcases u_.1 hr with hr|hr
  ·exact yV r hr
  ·rw[V_.1 hr];exact⟨_,_,_,_,rfl⟩
 ·have hke:k=m.code.length:=by omega
  subst hke;obtain⟨b,rfl,a2⟩:=BA o2 n2' lI.1 yV f2 l2;have J0:(List.replicate m.code.length mh).length=m.code.length:=by simp
  have row:=a2.zD (by rw[J0];omega);rw[J0]at row;refine aC (Tz [.int .i64 m.cls,.int .i64 m.fG,.slice p1 n1 c1,.int .i64 m.out,.int .i64 m.locals,.slice p2 m.code.length c2,.slice (some ⟨b,0,none⟩) m.code.length ca,.slice p4 n4 c4] {m with aQ:=List.replicate m.code.length mh} h2 l2 ⟨_,_,_,_,rfl,i1,i2,i3,i4,r1.le l2,r2.le l2 (λ_ _ hx=>hx),row,r4.le l2 (λ_ _ hx=>hx)⟩ ⟨hM.head,hM.len,hM.code,hM.cat⟩) (λv h3 hh=>?_);have l3:=hh.1;refine hh.2.elim λb3 hh=>hh.elim λOC hh=>hh.elim λA hh=>?_;have hv:=hh.1;subst hv;conv=>whnf
  have a3:=hh.2.1;exact⟨y_ l2 l3,b3,OC,A,rfl,⟨y_ l2 a3.le,br l2 a3.fr,a3.row⟩,hh.2.2.1,hh.2.2.2⟩
def since (g0 g:Heap):Heap:=λx=>match g0 x with
 | none=>g x
 | some _=>none
theorem vV {g0 g:Heap} {x:Nat} {o:Obj} (h:g0 x=some o):since g0 g x=none:=by unfold since;rw[h]
theorem fE {g0 g:Heap} {x:Nat} (h:g0 x=none):since g0 g x=g x:=by unfold since;rw[h]
theorem eF {g0 g:Heap} {x:Nat} {o:Obj} (h:since g0 g x=some o):g0 x=none/\g x=some o:=by
 cases e:g0 x with
 | none=>rw[fE e]at h;exact⟨rfl,h⟩
 | some y=>rw[vV e]at h;cases h
theorem aM (g0 g:Heap):(since g0 g).le g:=λx o hx=>(eF hx).2
theorem cF {g g':Heap} (g0:Heap) (hl:g.le g'):(since g0 g).le (since g0 g'):=λx o hx=>by
 obtain⟨h1,h2⟩:=eF hx;rw[fE h1];exact hl x o h2
theorem kQ {g0 g:Heap} {B:List Nat} (hB:∀ b∈B,g0 b=none):cR g (since g0 g) B:=λb hb o ho=>by rw[fE (hB b hb)];exact ho
theorem qz {g0 g:Heap} {b:Nat} (hb:g b=none):since g0 g b=none:=by
 unfold since;cases h:g0 b<;>simp[h,hb]
theorem mN {g0 g:Heap} {b:Nat} {o:Obj} (hb:g0 b=none):since g0 (g.set b o)=(since g0 g).set b o:=by
 funext x
 unfold since;simp only[Heap.set];by_cases e:x=b
 ·subst e;simp[hb]
 ·simp[e]
theorem GZ {P:Program} {f:FuncId} {args:List Value} {g0 g:Heap} {R:Value->Heap->Prop} (h0:g0.le g) (hc:bI P f args (since g0 g) R) :
  bI P f args g λv g'=>(∀ b o,g0 b=some o->g' b=some o)/\R v (since g0 g'):=by
 intro w hv;refine(hc w (λb' o' hx=>hv b' o' (aM g0 g b' o' hx))).mono ?_;rintro e w' ⟨h1,m,hm⟩;have gE:∀ b o,g0 b=some o->b < w.heap.size:=λb o hx=>eV (hv b o (h0 b o hx));have Qz:∀ b o,g0 b=some o->h1 b=none:=λb o hbL=>by
  cases hx:h1 b with
  | none=>rfl
  | some x =>
   rcases m.x9 b (by rw[hx];simp)with h2|h2
   ·exact absurd (vV hbL) h2
   ·have:=gE b o hbL;omega
 let h':Heap:=λx=>match g0 x with
  | some o=>some o
  | none=>h1 x
 have fW:∀ x o,g0 x=some o->h' x=some o:=λx o hx=>by simp[h',hx]
 have fK:∀ x,g0 x=none->h' x=h1 x:=λx hx=>by simp[h',hx]
 have hh:since g0 h'=h1:=by
  funext x
  cases e:g0 x with
  | some o=>rw[vV e,Qz x o e]
  | none=>rw[fE e,fK x e]
 have mv:dn g w h' w':=by
  refine⟨λx y hx=>?_,λx hx hn=>?_,λx hx=>?_,m.size,m.fz,m.out⟩
  ·cases e:g0 x with
   | some o =>
    have hk:=m.aJ x (gE x o e) (vV e);rw[fW x o e]at hx;rw[hk,<-hx];exact hv x o (h0 x o e)
   | none =>
    rw[fK x e]at hx;exact m.view x y hx
  ·have Z0:since g0 g x=none:=qz hn;exact m.aJ x hx Z0
  ·cases e:g0 x with
   | some o=>left;rw[h0 x o e];simp
   | none =>
    rw[fK x e]at hx;rcases m.x9 x hx with h2|h2
    ·left;rwa [fE e]at h2
    ·exact .inr h2
 refine⟨h',mv,?_⟩;cases e with
 | returned v=>exact⟨fW,by rw[hh];exact hm⟩
 | panicked c=>exact hm.elim
 | outgrown=>exact hm.elim
theorem EZ {g0 g g':Heap} (h:(since g0 g).le (since g0 g')) (h0:∀ b o,g0 b=some o->g' b=some o) (hl:g0.le g):g.le g':=λx o hx=>by
 cases e:g0 x with
 | some y =>
  have:=hl x y e;rw[hx]at this;rw[h0 x y e,this]
 | none=>exact(eF (h x o (by rw[fE e];exact hx))).2
theorem PC {P:Program} {f:FuncId} {args:List Value} {g0 g:Heap} {bb:Nat} {vb:Value} {p:Int} {R:Value->Heap->Prop} {K:Value->Heap->Prop} {E:List PanicEntry->Heap->Prop} (r:bC g bb vb p) (h0:g0.le g) (hc:bI P f args (since g0 g) λv G'=>(since g0 g).le G'/\R v G')
  (hk:∀ v g',g.le g'->bC g' bb vb p->R v (since g0 g')->K v (dz g' bb vb p)):Go.Vc.Call P f args (dz g bb vb p) K E :=
 Pq r (R:=λv g'=>R v (since g0 g')) (bI.mono (GZ h0 hc) λv g' hh=>⟨EZ hh.2.1 hh.1 h0,hh.2.2⟩) hk
def PD (g:Heap):Prop:=∀(b:Nat) (cs:Array Value) (t:TypeId) (z:Nat × Nat),g b=some (Obj.cells cs t z)->z=(0,0)
theorem cr.C4 {sz:Nat} {α:Type} {f:α->List Value} {Q:Heap->List Value->α->Prop} {h:Heap} {v:Value} {l:List α} {B:List Nat} (ho:cr sz h v (l.map f) B) (hl:l.length<=140737488351232) (hq:∀ a∈l,Q h (f a) a):Row sz Q h v l:=by
 obtain⟨hx,ho⟩:=ho;rcases ho with ⟨rfl,hn,_⟩|⟨b,c,rest,t,rfl,gF,hb,hlen,_⟩
 ·have:l=[]:=by simpa using hn
  subst this;exact⟨by simp,none,0,rfl,by simp,.inl rfl⟩
 ·refine⟨hl,_,c,by simp,by simpa using gF,.inr ⟨b,0,rfl,λi x hi=>?_⟩⟩;have hm:x∈l:=List.mem_of_getElem? hi;obtain⟨bV,Qy⟩:=List.getElem?_eq_some_iff.1 hi;refine⟨f x,?_,hq x hm⟩;have Dj:l.map f=(l.take i).map f++f x::(l.drop (i+1)).map f:=by
   rw[<-Qy,<-List.map_cons,<-List.map_append,<-List.drop_eq_getElem_cons bV,List.take_append_drop]
  have fV:((l.take i).map f).flatten.length=i*sz:=by
   rw[bW (sz:=sz)]
   ·rw[List.length_map,List.length_take,Nat.min_eq_left (by omega)]
   ·intro y hy;exact hx y (by rw[Dj];exact u_.2 (.inl hy))
  have tI:(f x).length=sz:=hx _ (List.mem_map_of_mem hm);rw[Dj]at hb hlen;have:=bO hb sz (0+i*sz) (by
   simp only[List.flatten_append,List.flatten_cons,U_]at hlen ⊢;omega)
  rw[this];congr 1
  have e:((List.map f (List.take i l)++f x::List.map f (List.drop (i+1) l)).flatten++rest)=(List.map f (List.take i l)).flatten++(f x++((List.map f (List.drop (i+1) l)).flatten++rest)):=by simp
  rw[e,Nat.zero_add,<-fV,List.drop_left,<-tI,List.take_left]
theorem cr.TA {sz:Nat} {α:Type} {Q:Heap->List Value->α->Prop} {h:Heap} {v:Value} {aS:List (List Value)} {A:List α} {B:List Nat} (ho:cr sz h v aS B) (hn:aS.length=A.length) (hl:A.length<=140737488351232) (hq:∀ i (h1:i < aS.length) (h2:i < A.length),Q h aS[i] A[i]):Row sz Q h v A:=by
 obtain⟨hx,⟨rfl,e,_⟩|⟨b,c,rest,t,rfl,hc,hb,td,_⟩⟩:=ho
 ·subst e;have:A=[]:=List.eq_nil_of_length_eq_zero (by simpa using hn.symm);subst this;exact⟨by simp,none,0,rfl,by simp,.inl rfl⟩
 refine⟨hl,_,c,by rw[hn],by omega,.inr ⟨b,0,rfl,λi x hi=>?_⟩⟩;obtain⟨h2,rfl⟩:=List.getElem?_eq_some_iff.1 hi;have h1:i < aS.length:=by rw[hn];exact h2
 refine⟨aS[i],?_,hq i h1 h2⟩;have fV:(aS.take i).flatten.length=i*sz:=by
  rw[bW (sz:=sz)]
  ·rw[List.length_take,Nat.min_eq_left (by omega)]
  ·intro y hy;exact hx y (List.mem_of_mem_take hy)
 have Dj:aS.flatten++rest=(aS.take i).flatten++(aS[i]++((aS.drop (i+1)).flatten++rest)):=by
  have e:aS=aS.take i++aS[i]::aS.drop (i+1):=by rw[<-List.drop_eq_getElem_cons h1,List.take_append_drop]
  have e2:=congrArg List.flatten e;rw[e2];simp only[List.flatten_append,List.flatten_cons,List.append_assoc]
 have tI:aS[i].length=sz:=hx _ (x_ _);rw[Dj]at hb td;rw[bO hb sz (0+i*sz) (by simp only[U_]at td ⊢;omega),Nat.zero_add,<-fV,List.drop_left,<-tI,List.take_left]
theorem kR {h:Heap} {b:Nat} {o:Obj} {A:List Nat} (hA:b ∉ A):cR h (h.set b o) A:=λc hc o' ho=>by
 have:c≠b:=by rintro rfl;exact hA hc
 simp only[Heap.set,this,if_false];exact ho
def pE (t:Int):Prop:=-1000<=t/\t<=1000
structure Dq (gB g:Heap) (l1:List Int) (p1:Option Addr) (c1:Nat) (B1:List Nat) (l2:List Int) (p2:Option Addr) (c2:Nat) (B2:List Nat):Prop where
 le:gB.le g
 o1:dR g (.slice p1 l1.length c1) l1 B1
 o2:dR g (.slice p2 l2.length c2) l2 B2
 nd:Nd (B1++B2)
 fr:∀ b∈B1++B2,gB b=none
 t1:∀ t∈l1,pE t
 t2:∀ t∈l2,pE t
section
variable {gB g g':Heap} {l1 l2:List Int} {p1 p2:Option Addr} {c1 c2:Nat} {B1 B2:List Nat} {bb:Nat} {vb:Value} {q0 q:Int}
theorem Dq.start (g:Heap):Dq g g [] none 0 [] [] none 0 [] :=
 ⟨z_ g,⟨by simp,.inl ⟨rfl,rfl,rfl⟩⟩,⟨by simp,.inl ⟨rfl,rfl,rfl⟩⟩,λa=>by simp,by simp,by simp,by simp⟩
theorem Dq.swap (s:Dq gB g l1 p1 c1 B1 l2 p2 c2 B2):Dq gB g l2 p2 c2 B2 l1 p1 c1 B1 :=
 ⟨s.le,s.o2,s.o1,s.nd.perm λa=>by simp only[Y_];omega,λb hb=>s.fr b (by simp at hb ⊢;grind),s.t2,s.t1⟩
theorem Dq.in (s:Dq gB g l1 p1 c1 B1 l2 p2 c2 B2):∀ b∈B1++B2,∃ o,g b=some o:=λb hb=>(u_.1 hb).elim (s.o1.in b) (s.o2.in b)
theorem Dq.EH {el:TypeId} {n m:Nat} {vs:List Value} {K:Value->Heap->Prop} (s:Dq gB g l1 p1 c1 B1 l2 p2 c2 B2) (r0:bC gB bb vb q0) (r:bC g bb vb q) (k:List Int) (hn:n=l1.length) (hm:m=k.length) (hv:vs=k.map (Value.int .i64)) (hs:l1.length+k.length<=1000000) (DA:∀ t∈k,pE t)
  (hk:∀ p' c' g' B',Dq gB g' (l1++k) p' c' B' l2 p2 c2 B2->bC g' bb vb q->K (.slice p' (l1++k).length c') (dz g' bb vb q)):App 8 1 [.int .i64 0] el (dz g bb vb q) p1 n c1 m vs K:=by
 subst hn hv;have fW:=s.in;refine vQ (k:=k) r0 r s.o1 (λb hb=>s.fr b (by simp[hb])) s.le hm hs (λp' c' g' B' k1 k2 k3 k4 ev=>?_);refine hk p' c' g' B' ⟨k1,k3,s.o2.aJ (ev.aJ λb hb hc=>wZ s.nd b hc hb),?_,λb hb=>?_,λt ht=>?_,s.t2⟩ k2
 ·have:=Nd.swap (A:=B2) (X:=B1) (X':=B') (s.nd.perm λa=>by simp only[Y_];omega) k3.nd (λb hb=>(ev.new b hb).imp id λhn hm=>by
   obtain⟨o,ho⟩:=fW b (by simp[hm]);rw[hn]at ho;cases ho)
  exact this.perm λa=>by simp only[Y_];omega
 ·rcases u_.1 hb with h1|h1
  ·exact k4 b h1
  ·exact s.fr b (by simp[h1])
 ·rcases u_.1 ht with h1|h1
  ·exact s.t1 t h1
  ·exact DA t h1
theorem Dq.GB {el:TypeId} {n m:Nat} {vs:List Value} {K:Value->Heap->Prop} (s:Dq gB g l1 p1 c1 B1 l2 p2 c2 B2) (r0:bC gB bb vb q0) (r:bC g bb vb q) (k:List Int) (hn:n=l2.length) (hm:m=k.length) (hv:vs=k.map (Value.int .i64)) (hs:l2.length+k.length<=1000000) (DA:∀ t∈k,pE t)
  (hk:∀ p' c' g' B',Dq gB g' l1 p1 c1 B1 (l2++k) p' c' B'->bC g' bb vb q->K (.slice p' (l2++k).length c') (dz g' bb vb q)):App 8 1 [.int .i64 0] el (dz g bb vb q) p2 n c2 m vs K :=
 s.swap.EH r0 r k hn hm hv hs DA λp' c' g' B' h1 h2=>hk p' c' g' B' h1.swap h2
theorem zO {g0:Heap} {v:Value} {l:List Int} {B:List Nat} (h0:g0.le gB) (ho:dR g v l B) (hf:∀ b∈B,gB b=none) (ht:∀ t∈l,pE t) (hl:l.length<=1000000):dy (since g0 g) v l :=
 cr.C4 (ho.aJ (kQ λb hb=>br h0 (hf b hb))) (by omega) λt h=>⟨rfl,by have:=ht t h;unfold pE at this;unfold cY;omega⟩
def aao (g0 g:Heap) (v:Value):Prop:=∃(tv:Bool) (p1:Option Addr) (n1 c1:Nat) (p2:Option Addr) (n2 c2:Nat) (l1 l2:List Int),v=.agg #[.bool tv,.slice p1 n1 c1,.slice p2 n2 c2]/\dy (since g0 g) (.slice p1 n1 c1) l1/\dy (since g0 g) (.slice p2 n2 c2) l2
theorem Dq.To {g0:Heap} (s:Dq gB g l1 p1 c1 B1 l2 p2 c2 B2) (h0:g0.le gB) (tv:Bool) (n1:l1.length<=1000000) (n2:l2.length<=1000000):aao g0 g (.agg #[.bool tv,.slice p1 l1.length c1,.slice p2 l2.length c2]) :=
 ⟨tv,_,_,_,_,_,_,l1,l2,rfl,zO h0 s.o1 (λb hb=>s.fr b (by simp[hb])) s.t1 n1,zO h0 s.o2 (λb hb=>s.fr b (by simp[hb])) s.t2 n2⟩
end
theorem zP {g0 g:Heap} {bb:Nat} {vb:Value} {p:Int} (n locals:Int) (r:bC g bb vb p) (hp:p<=80000000) (h0:g0.le g) (hn:1<=n/\n<=100) (hl:locals<=100) :
  Dr prog 54 [.pointer (some ⟨bb,0,none⟩),.int .i64 n,.int .i64 locals] g bb vb p 700 λg' v=>aao g0 g' v:=by
 have Rb:=λg' q (r':bC g' bb vb q) hq=>sS n r' hq (by omega:1<=n/\n<=1000);refine bZ au func54 G54 Z8 rfl ?_;conv=>whnf
 refine fh [0,1,2,6,7,8] [6,7] (λy:Nat × (Heap × Int) × (List Int × Option Addr × Nat × List Nat)=>(y.1=0\/(y.1:Int)<=locals)/\y.2.2.1.length=y.1/\bC y.2.1.1 bb vb y.2.1.2/\p<=y.2.1.2/\y.2.1.2<=p+4*(y.1:Int)/\Dq g y.2.1.1 y.2.2.1 y.2.2.2.1 y.2.2.2.2.1 y.2.2.2.2.2 [] none 0 []) (λy=>locals.toNat-y.1)
  (λy=>([.v (.pointer (some ⟨bb,0,none⟩)),.v (.int .i64 n),.v (.int .i64 locals),.l 6 0,.l 7 0,.v (.int .i64 y.1)],[some [.bool false,.slice none 0 0,.slice none 0 0],some [.bool true,.slice y.2.2.2.1 y.1 y.2.2.2.2.1,.slice none 0 0]],dz y.2.1.1 bb vb y.2.1.2))
  (0,(g,p),([],none,0,[])) ⟨.inl rfl,rfl,r,by simp only;omega,by simp only;omega,Dq.start g⟩ rfl ?_
 rintro⟨i,⟨g1,q1⟩,⟨l1,p1,c1,B1⟩⟩ ⟨hi,n1,r1,qL,s9,s1⟩;simp only at hi n1 r1 qL s9 s1 ⊢;subst n1;conv=>whnf
 apply ax<;>intro gi;all_goals conv=>whnf
 ·refine gY r1 (Rb _ _ r1 (by omega)) (λv g2 q2 l2 r2 q20 q21 hA=>?_);obtain⟨rfl,t,rfl,t0,t1⟩:=hA;conv=>whnf
  refine s1.EH r r2 [t] rfl rfl rfl (by simp;omega) (λx hx=>by rw[V_.1 hx];unfold pE;omega) (λp2 c2 g3 B2 s3 r3=>?_);conv=>whnf
  refine ah ?_;conv=>whnf
  exact dm (l1.length+1,(g3,q2),(l1++[t],p2,c2,B2)) ⟨.inr (by simp only;omega),by simp,r3,by simp only;omega,by simp only;omega,s3⟩ (by simp only;omega) (by simp only[U_,List.length_singleton];rfl)
 ·have ji:l1.length<=100:=by omega
  refine bF r1 (by omega) (λk k0 k1 k2 r2=>?_);conv=>whnf
  refine fh [0,1,6,7,9] [6,7] (λy:Int × (Heap × Int) × (List Int × Option Addr × Nat × List Nat)=>0<=y.1/\(y.2.2.1.length:Int)+y.1<=4/\bC y.2.1.1 bb vb y.2.1.2/\p<=y.2.1.2/\y.2.1.2<=p+450-6*y.1/\Dq g y.2.1.1 l1 p1 c1 B1 y.2.2.1 y.2.2.2.1 y.2.2.2.2.1 y.2.2.2.2.2) (λy=>y.1.toNat)
   (λy=>([.v (.pointer (some ⟨bb,0,none⟩)),.v (.int .i64 n),.l 6 0,.l 7 0,.v (.int .i64 y.1)],[some [.bool false,.slice none 0 0,.slice none 0 0],some [.bool true,.slice p1 l1.length c1,.slice y.2.2.2.1 y.2.2.1.length y.2.2.2.2.1]],dz y.2.1.1 bb vb y.2.1.2))
   (k,(g1,q1+1),([],none,0,[])) ⟨k0,by simp;omega,r2,by simp only;omega,by simp only;omega,s1⟩ rfl ?_
  clear r2 s1 k0 k1 k2;rintro⟨k,⟨g3,q3⟩,⟨l2,p2,c2,B2⟩⟩ ⟨k0,k1,r3,wA,hq3,s3⟩;simp only at k0 k1 r3 wA hq3 s3 ⊢;conv=>whnf
  apply ax<;>intro gk;all_goals conv=>whnf
  ·refine gY r3 (Rb _ _ r3 (by omega)) (λv g4 q4 l4 r4 MM MN hA=>?_);obtain⟨rfl,t,rfl,t0,t1⟩:=hA;conv=>whnf
   have fin:∀(x q5:Int),pE x->bC g4 bb vb q5->q4<=q5->q5<=q4+1->True:=λ_ _ _ _ _ _=>trivial;apply ax<;>intro g5;all_goals conv=>whnf
   ·refine bF r4 (by omega) (λz z0 z1 z2 r5=>?_);conv=>whnf
    apply ax<;>intro g6;all_goals conv=>whnf
    ·refine s3.GB r r5 [1] rfl rfl rfl (by simp;omega) (λx hx=>by rw[V_.1 hx];unfold pE;omega) (λp5 c5 g6 B5 s6 r6=>?_);conv=>whnf
     refine ah ?_;conv=>whnf
     exact dm (k-1,(g6,q4+1),(l2++[1],p5,c5,B5)) ⟨by simp only;omega,by simp;omega,r6,by simp only;omega,by simp only;omega,s6⟩ (by simp only;omega) (by simp only[U_,List.length_singleton];rfl)
    ·refine s3.GB r r5 [t] rfl rfl rfl (by simp;omega) (λx hx=>by rw[V_.1 hx];unfold pE;omega) (λp5 c5 g6 B5 s6 r6=>?_);conv=>whnf
     refine ah ?_;conv=>whnf
     exact dm (k-1,(g6,q4+1),(l2++[t],p5,c5,B5)) ⟨by simp only;omega,by simp;omega,r6,by simp only;omega,by simp only;omega,s6⟩ (by simp only;omega) (by simp only[U_,List.length_singleton];rfl)
   ·refine s3.GB r r4 [t] rfl rfl rfl (by simp;omega) (λx hx=>by rw[V_.1 hx];unfold pE;omega) (λp5 c5 g6 B5 s6 r6=>?_);conv=>whnf
    refine ah ?_;conv=>whnf
    exact dm (k-1,(g6,q4),(l2++[t],p5,c5,B5)) ⟨by simp only;omega,by simp;omega,r6,by simp only;omega,by simp only;omega,s6⟩ (by simp only;omega) (by simp only[U_,List.length_singleton];rfl)
  ·have hl2:l2.length<=100:=by omega
   refine bF r3 (by omega) (λz z0 z1 z2 r4=>?_);conv=>whnf
   apply ax<;>intro g5;all_goals conv=>whnf
   ·refine Pq r4 (kM g3) (λv g6 l6 r6 hh=>?_);obtain⟨b1,b2,rfl⟩:=hh;conv=>whnf
    exact⟨_,_,rfl,y_ s3.le l6,r6.free,by omega,by omega,false,_,_,_,_,_,_,[],[],rfl,iP _ _ _,iP _ _ _⟩
   apply ax<;>intro g6;all_goals conv=>whnf
   ·exact⟨_,_,rfl,s3.le,r4.free,by omega,by omega,s3.To h0 false (by omega) (by omega)⟩
   apply ax<;>intro g7;all_goals conv=>whnf
   ·refine s3.EH r r4 [1] rfl rfl rfl (by simp;omega) (λx hx=>by rw[V_.1 hx];unfold pE;omega) (λp5 c5 g8 B5 s8 r8=>?_);conv=>whnf
    exact⟨_,_,rfl,s8.le,r8.free,by omega,by omega,s8.To h0 true (by simp;omega) (by omega)⟩
   apply ax<;>intro g8;all_goals conv=>whnf
   ·refine s3.GB r r4 [1,1,1,1] rfl rfl rfl (by simp;omega) (λx hx=>by simp at hx;subst hx;unfold pE;omega) (λp5 c5 g8 B5 s8 r8=>?_);conv=>whnf
    exact⟨_,_,rfl,s8.le,r8.free,by omega,by omega,s8.To h0 true (by omega) (by simp;omega)⟩
   ·exact⟨_,_,rfl,s3.le,r4.free,by omega,by omega,s3.To h0 true (by omega) (by omega)⟩
open Go.Vc Go.Proofs.Tryz
set_option maxRecDepth 100000
set_option maxHeartbeats 4000000
def E0 (c:eD):Prop:=cY c.bU/\c.fields.length<=1000/\∀ t∈c.fields,cY t
theorem cI.bd {cs:List eD} (ok:cI cs):∀ c∈cs,E0 c:=λc hc=>by
 obtain⟨i,hi,rfl⟩:=List.mem_iff_getElem.1 hc;obtain⟨f1,f2,f3,f4,f5⟩:=ok.2.2 i hi;have h5:=ok.2.1;refine⟨?_,by omega,λt ht=>?_⟩
 ·unfold cY;have:i=0\/i=1\/1 < i:=by omega
  rcases this with e|e|e
  ·have:=f2 e;omega
  ·have:=f3 e;omega
  ·have:=f4 e;omega
 ·have:=f1 t ht;unfold dg at this;unfold cY;omega
theorem mO {g0 g:Heap} {v:Value} {cs:List eD} {B:List Nat} (ho:eN pz 2 g v cs B) (hf:∀ b∈B,g0 b=none) (hb:∀ c∈cs,E0 c) (hn:cs.length<=1000):fP (since g0 g) v cs :=
 (ho.aJ tM (kQ hf)).row (by omega) λx a C ha hR=>by
  obtain⟨w,e,o⟩:=hR;have h1:=hb a ha;exact⟨w,e,h1.1,cr.C4 o (by have:=h1.2.1;omega) λt ht=>⟨rfl,h1.2.2 t ht⟩⟩
theorem Row.first {α:Type} {sz:Nat} {R:Heap->List Value->α->Prop} {h:Heap} {p:Option Addr} {n c:Nat} {l:List α} (hr:Row sz R h (.slice p n c) l) {m:Nat} (hm:m<=l.length):Row sz R h (.slice p m c) (l.take m):=by
 obtain⟨h1,p',c',he,h2,h3⟩:=hr;simp only[Z_]at he;obtain⟨rfl,rfl,rfl⟩:=he;have gE:(l.take m).length=m:=by rw[List.length_take];omega
 refine⟨by omega,p,c,by rw[gE],by omega,?_⟩;rcases h3 with rfl|⟨b,off,rfl,hx⟩
 ·exact .inl (by simp)
 ·refine .inr ⟨b,off,rfl,λi x hi=>?_⟩;have bV:i < m:=by have:=(List.getElem?_eq_some_iff.1 hi).1;omega
  rw[List.getElem?_take_of_lt bV]at hi;exact hx i x hi
def C5 (g0 g:Heap) (v:Value):Prop:=∃(p:Option Addr) (n c:Nat) (cs:List eD),v=.slice p n c/\fP (since g0 g) (.slice p n c) cs
theorem PE {g:Heap} {bb:Nat} {vb:Value} {p:Int} {K:Value->Heap->Prop} {E:List PanicEntry->Heap->Prop} (r:bC g bb vb p) (hp:p<=1000000000)
  (k0:bC g bb vb (p+1)->K (.int .i64 0) (dz g bb vb (p+1))) (k1:bC g bb vb (p+1)->K (.int .i64 1) (dz g bb vb (p+1))) (k2:bC g bb vb (p+1)->K (.int .i64 2) (dz g bb vb (p+1))) (k3:bC g bb vb (p+1)->K (.int .i64 3) (dz g bb vb (p+1))) :
  Go.Vc.Call prog 24 [.pointer (some ⟨bb,0,none⟩),.int .i64 4] (dz g bb vb p) K E :=
 bF r hp λs s0 s1 _ r1=>by
  have hs:s=0\/s=1\/s=2\/s=3:=by omega
  rcases hs with rfl|rfl|rfl|rfl
  ·exact k0 r1
  ·exact k1 r1
  ·exact k2 r1
  ·exact k3 r1
theorem MO {g0 g:Heap} {bb:Nat} {vb:Value} {p:Int} (r:bC g bb vb p) (hp:p<=70000000) (h0:g0.le g) :
  Dr prog 110 [.pointer (some ⟨bb,0,none⟩)] g bb vb p 120 λg' v=>C5 g0 g' v:=by
 refine bZ au func110 aab Th rfl ?_;conv=>whnf
 refine gY r (vR r (by omega)) (λv g1 q1 l1 r1 q10 q11 hA=>?_);obtain⟨cs,B,oc,J1,xd,ok⟩:=hA;have f:=oc.form;obtain⟨cp,cc,rfl,N0⟩:=f;have NH:=ok.1;have hn5:=ok.2.1;have plain:C5 g0 g1 (.slice cp cs.length cc):=⟨_,_,_,cs,rfl,mO oc (λb hb=>br h0 (xd b hb)) ok.bd (by omega)⟩
 conv=>whnf
 refine bF r1 (by omega) (λy y0 y1 y2 r2=>?_);conv=>whnf
 apply ax<;>intro ga;all_goals conv=>whnf
 ·exact⟨_,_,rfl,l1,r2.free,by omega,by omega,plain⟩
 refine bF r2 (by omega) (λx x0 x1 x2 r3=>?_);have hx:x.toNat < cs.length:=by omega
 conv=>whnf
 refine bF r3 (by omega) (λz z0 z1 z2 r4=>?_);conv=>whnf
 apply ax<;>intro gb;all_goals conv=>whnf
 ·refine bF r4 (by omega) (λs s0 s1 s2 r5=>?_);conv=>whnf
  have tX:cs=cs.take x.toNat++cs[x.toNat]::cs.drop (x.toNat+1):=by rw[<-List.drop_eq_getElem_cons hx,List.take_append_drop]
  have PF:eN pz 2 g1 (.slice cp cs.length cc) (cs.take x.toNat++cs[x.toNat]::cs.drop (x.toNat+1)) B:=by rw[<-tX];exact oc
  have f:=PF.at tM;obtain⟨b,c,xr,pre,post,t,Bo,Bi,e,N0,hb,fV,tI,hR,js,fe⟩:=f;simp only[Z_]at e;obtain⟨hq,_,C6⟩:=e;subst hq C6;obtain⟨w,rfl,ow⟩:=hR;have f:=ow.form;obtain⟨wp,wc,rfl,PG⟩:=f;have Dg:(cs[x.toNat].fields.map bN).length=cs[x.toNat].fields.length:=by simp
  rw[Dg]at hb ow PG;have lF:pre.length=x.toNat*2:=by rw[fV,List.length_take,Nat.min_eq_left (by omega)]
  have ef:∀ y,y∈b::Bo++Bi->y∈B:=λy hy=>by
   have h1:=W_.2 hy;refine W_.1 ?_;rw[js y];exact h1
  have hnd:Nd (b::Bo++Bi):=J1.perm λa=>(js a).symm;have Rc:b ∉ Bo:=λhm=>by have:=hnd b;have:=W_.2 hm;simp only[List.cons_append,X_,Y_,beq_self_eq_true,if_true]at *;omega
  have Rd:b ∉ Bi:=λhm=>by have:=hnd b;have:=W_.2 hm;simp only[List.cons_append,X_,Y_,beq_self_eq_true,if_true]at *;omega
  have MP:∀ y∈Bo,y ∉ Bi:=λy h1 h2=>by have:=hnd y;have:=W_.2 h1;have:=W_.2 h2;simp only[List.cons_append,X_,Y_]at *;omega
  have PI:g0 b=none:=br h0 (xd b (ef b (by simp)));have PJ:∀ y∈Bo,g0 y=none:=λy hy=>br h0 (xd y (ef y (by simp[hy])));have fri:∀ y∈Bi,g0 y=none:=λy hy=>br h0 (xd y (ef y (by simp[hy])));have done:∀(g':Heap) (x':List Value) (a':eD) (B':List Nat),g' b=some (.cells (pre++x'++post).toArray t (0,0))->x'.length=2->pz g' x' a' B'->cR g1 g' Bo->E0 a'->(∀ y∈B',g0 y=none)->C5 g0 g' (.slice (some ⟨b,0,none⟩) cs.length cc):=λg' x' a' B' h1 h2 h3 h4 h5 h6=>by
   obtain⟨B2,o2,c2⟩:=fe g' x' a' B' h1 h2 h3 h4;refine⟨_,_,_,_,rfl,mO o2 (λy hy=>?_) (λz hz=>?_) (by simp;omega)⟩
   ·have h7:=W_.2 hy;have h8:y∈b::Bo++B':=by
     refine W_.1 ?_;rw[<-c2 y];exact h7
    simp only[List.cons_append,List.mem_cons,u_]at h8;rcases h8 with rfl|h8|h8
    ·exact PI
    ·exact PJ y h8
    ·exact h6 y h8
   ·rcases u_.1 hz with h7|h7
    ·exact ok.bd z (List.mem_of_mem_take h7)
    ·rcases List.mem_cons.1 h7 with rfl|h7
     ·exact h5
     ·exact ok.bd z (List.mem_of_mem_drop h7)
  have N1:=ok.bd _ (x_ hx);have Ep:g b=none:=xd b (ef b (by simp));refine ah ?_;conv=>whnf
  refine aq ?_;conv=>whnf
  refine ptr ?_;conv=>whnf
  refine jS r5.free hb (by simp;omega) (jZ (i:=0) (by simp only;omega) (by simp)) ?_;conv=>whnf
  refine⟨_,_,rfl,Heap.aP l1 Ep,?_,by omega,by omega,done _ [.int .i64 (s-1),.slice wp _ wc] ⟨s-1,cs[x.toNat].fields⟩ Bi (dh _ _ _) rfl ⟨_,rfl,ow.aJ (kR Rd)⟩ (kR Rc) ⟨by unfold cY;simp only;omega,N1.2⟩ fri⟩;have cH:bb≠b:=λe=>by have:=r5.free;rw[e,hb]at this;cases this
  simp[Heap.set,cH,r5.free]
 apply ax<;>intro gc;all_goals conv=>whnf
 ·skip
  have tX:cs=cs.take x.toNat++cs[x.toNat]::cs.drop (x.toNat+1):=by rw[<-List.drop_eq_getElem_cons hx,List.take_append_drop]
  have PF:eN pz 2 g1 (.slice cp cs.length cc) (cs.take x.toNat++cs[x.toNat]::cs.drop (x.toNat+1)) B:=by rw[<-tX];exact oc
  have f:=PF.at tM;obtain⟨b,c,xr,pre,post,t,Bo,Bi,e,N0,hb,fV,tI,hR,js,fe⟩:=f;simp only[Z_]at e;obtain⟨hq,_,C6⟩:=e;subst hq C6;obtain⟨w,rfl,ow⟩:=hR;have f:=ow.form;obtain⟨wp,wc,rfl,PG⟩:=f;have Dg:(cs[x.toNat].fields.map bN).length=cs[x.toNat].fields.length:=by simp
  rw[Dg]at hb ow PG;have lF:pre.length=x.toNat*2:=by rw[fV,List.length_take,Nat.min_eq_left (by omega)]
  have ef:∀ y,y∈b::Bo++Bi->y∈B:=λy hy=>by
   have h1:=W_.2 hy;refine W_.1 ?_;rw[js y];exact h1
  have hnd:Nd (b::Bo++Bi):=J1.perm λa=>(js a).symm;have Rc:b ∉ Bo:=λhm=>by have:=hnd b;have:=W_.2 hm;simp only[List.cons_append,X_,Y_,beq_self_eq_true,if_true]at *;omega
  have Rd:b ∉ Bi:=λhm=>by have:=hnd b;have:=W_.2 hm;simp only[List.cons_append,X_,Y_,beq_self_eq_true,if_true]at *;omega
  have MP:∀ y∈Bo,y ∉ Bi:=λy h1 h2=>by have:=hnd y;have:=W_.2 h1;have:=W_.2 h2;simp only[List.cons_append,X_,Y_]at *;omega
  have PI:g0 b=none:=br h0 (xd b (ef b (by simp)));have PJ:∀ y∈Bo,g0 y=none:=λy hy=>br h0 (xd y (ef y (by simp[hy])));have fri:∀ y∈Bi,g0 y=none:=λy hy=>br h0 (xd y (ef y (by simp[hy])));have done:∀(g':Heap) (x':List Value) (a':eD) (B':List Nat),g' b=some (.cells (pre++x'++post).toArray t (0,0))->x'.length=2->pz g' x' a' B'->cR g1 g' Bo->E0 a'->(∀ y∈B',g0 y=none)->C5 g0 g' (.slice (some ⟨b,0,none⟩) cs.length cc):=λg' x' a' B' h1 h2 h3 h4 h5 h6=>by
   obtain⟨B2,o2,c2⟩:=fe g' x' a' B' h1 h2 h3 h4;refine⟨_,_,_,_,rfl,mO o2 (λy hy=>?_) (λz hz=>?_) (by simp;omega)⟩
   ·have h7:=W_.2 hy;have h8:y∈b::Bo++B':=by
     refine W_.1 ?_;rw[<-c2 y];exact h7
    simp only[List.cons_append,List.mem_cons,u_]at h8;rcases h8 with rfl|h8|h8
    ·exact PI
    ·exact PJ y h8
    ·exact h6 y h8
   ·rcases u_.1 hz with h7|h7
    ·exact ok.bd z (List.mem_of_mem_take h7)
    ·rcases List.mem_cons.1 h7 with rfl|h7
     ·exact h5
     ·exact ok.bd z (List.mem_of_mem_drop h7)
  have N1:=ok.bd _ (x_ hx);have Ep:g b=none:=xd b (ef b (by simp));have e1:rd (dz g1 bb vb (q1+1+1+1)) b (0+x.toNat*2+1)=some (.slice wp cs[x.toNat].fields.length wc):=aX (aY r4.free) (bE hb (i:=1) (by omega) rfl);have e2:rd (dz g1 bb vb (q1+1+1+1+1)) b (0+x.toNat*2+1)=some (.slice wp cs[x.toNat].fields.length wc):=aX (aY r4.free) (bE hb (i:=1) (by omega) rfl);have fl:=N1.2.1;have fl2:cs[x.toNat].fields.length<=2:=(ok.2.2 _ hx).2.2.2.2;have xX:∀(g6:Heap) (B6:List Nat),Ev g1 g6 Bi B6->g6 b=some (.cells (pre++[Value.int .i64 cs[x.toNat].bU,.slice wp cs[x.toNat].fields.length wc]++post).toArray t (0,0))/\b ∉ B6:=λg6 B6 ev=>by
   refine⟨by rw[ev.iB b (by rw[hb];simp) Rd];exact hb,λhm=>?_⟩;rcases ev.new b hm with h1|h1
   ·exact Rd h1
   ·rw[hb]at h1;cases h1
  have fin:∀(c0:Int) (p':Option Addr) (c':Nat) (g6:Heap) (B6:List Nat),-1000<=c0/\c0<=1000->g.le g6->bC g6 bb vb (q1+1+1+1+1)->dR g6 (.slice p' (cs[x.toNat].fields++[c0]).length c') (cs[x.toNat].fields++[c0]) B6->(∀ y∈B6,g y=none)->Ev g1 g6 Bi B6 ->
    ∃ g' q,dz (g6.set b (.cells (pre++[Value.int .i64 cs[x.toNat].bU,.slice p' (cs[x.toNat].fields++[c0]).length c']++post).toArray t (0,0))) bb vb (q1+1+1+1+1)=dz g' bb vb q/\g.le g'/\g' bb=none/\p<=q/\q<=p+120/\C5 g0 g' (.slice (some ⟨b,0,none⟩) cs.length cc):=λc0 p' c' g6 B6 hc0 k1 k2 k3 k4 ev=>by
   have h6:=xX g6 B6 ev;refine⟨_,_,rfl,Heap.aP k1 Ep,?_,by omega,by omega,done _ [.int .i64 cs[x.toNat].bU,.slice p' (cs[x.toNat].fields++[c0]).length c'] ⟨cs[x.toNat].bU,cs[x.toNat].fields++[c0]⟩ B6 (dh _ _ _) rfl ⟨_,rfl,k3.aJ (kR h6.2)⟩ (λc hc o ho=>kR Rc c hc o (by rw[ev.iB c (by rw[ho];simp) (MP c hc)];exact ho)) ⟨N1.1,by simp;omega,λt ht=>?_⟩ (λy hy=>br h0 (k4 y hy))⟩
   ·have cH:bb≠b:=λe=>by have:=k2.free;rw[e,h6.1]at this;cases this
    simp[Heap.set,cH,k2.free]
   ·rcases u_.1 ht with h1|h1
    ·exact N1.2.2 t h1
    ·rw[V_.1 h1];unfold cY;omega
  repeat' ((first|exact trivial|apply T_|refine ld e1 ?_|refine ld e2 ?_|refine ptr ?_|refine aq ?_|refine PE r4 (by omega) (λr5=>?_) (λr5=>?_) (λr5=>?_) (λr5=>?_)|refine vQ (k:=[_]) r (bC.on r4 (by omega)) ow (λy hy=>xd y (ef y (by simp[hy]))) l1 rfl (by simp;omega) (λp' c' g6 B6 k1 k2 k3 k4 ev=>?_)|refine jS k2.free (xX _ _ ev).1 (by simp;omega) (jZ (i:=1) (by simp only;omega) (by simp)) ?_|exact fin _ _ _ _ _ (by omega) k1 k2 k3 k4 ev)<;>conv=>whnf)
 apply ax<;>intro gd;all_goals conv=>whnf
 ·refine aq ?_;conv=>whnf
  obtain⟨_,_,_,jU,e,hcs⟩:=plain;simp only[Z_]at e;obtain⟨rfl,rfl,rfl⟩:=e;have tn:1<=jU.length:=by
   obtain⟨_,_,e,_,_⟩:=hcs.len;simp only[Z_]at e;omega
  exact⟨_,_,rfl,l1,r4.free,by omega,by omega,_,_,_,_,rfl,hcs.first tn⟩
 apply ax<;>intro ge;all_goals conv=>whnf
 ·have h1l:1 < cs.length:=by omega
  have ocp:=oc;have tX:cs=cs.take 1++cs[1]::cs.drop (1+1):=by rw[<-List.drop_eq_getElem_cons h1l,List.take_append_drop]
  have PF:eN pz 2 g1 (.slice cp cs.length cc) (cs.take 1++cs[1]::cs.drop (1+1)) B:=by rw[<-tX];exact oc
  have f:=PF.at tM;obtain⟨b,c,xr,pre,post,t,Bo,Bi,e,N0,hb,fV,tI,hR,js,fe⟩:=f;simp only[Z_]at e;obtain⟨hq,_,C6⟩:=e;subst hq C6;obtain⟨w,rfl,ow⟩:=hR;have f:=ow.form;obtain⟨wp,wc,rfl,PG⟩:=f;have Dg:(cs[1].fields.map bN).length=cs[1].fields.length:=by simp
  rw[Dg]at hb ow PG;have lF:pre.length=1*2:=by rw[fV,List.length_take,Nat.min_eq_left (by omega)]
  have ef:∀ y,y∈b::Bo++Bi->y∈B:=λy hy=>by
   have h1:=W_.2 hy;refine W_.1 ?_;rw[js y];exact h1
  have hnd:Nd (b::Bo++Bi):=J1.perm λa=>(js a).symm;have Rc:b ∉ Bo:=λhm=>by have:=hnd b;have:=W_.2 hm;simp only[List.cons_append,X_,Y_,beq_self_eq_true,if_true]at *;omega
  have Rd:b ∉ Bi:=λhm=>by have:=hnd b;have:=W_.2 hm;simp only[List.cons_append,X_,Y_,beq_self_eq_true,if_true]at *;omega
  have MP:∀ y∈Bo,y ∉ Bi:=λy h1 h2=>by have:=hnd y;have:=W_.2 h1;have:=W_.2 h2;simp only[List.cons_append,X_,Y_]at *;omega
  have PI:g0 b=none:=br h0 (xd b (ef b (by simp)));have PJ:∀ y∈Bo,g0 y=none:=λy hy=>br h0 (xd y (ef y (by simp[hy])));have fri:∀ y∈Bi,g0 y=none:=λy hy=>br h0 (xd y (ef y (by simp[hy])));have done:∀(g':Heap) (x':List Value) (a':eD) (B':List Nat),g' b=some (.cells (pre++x'++post).toArray t (0,0))->x'.length=2->pz g' x' a' B'->cR g1 g' Bo->E0 a'->(∀ y∈B',g0 y=none)->C5 g0 g' (.slice (some ⟨b,0,none⟩) cs.length cc):=λg' x' a' B' h1 h2 h3 h4 h5 h6=>by
   obtain⟨B2,o2,c2⟩:=fe g' x' a' B' h1 h2 h3 h4;refine⟨_,_,_,_,rfl,mO o2 (λy hy=>?_) (λz hz=>?_) (by simp;omega)⟩
   ·have h7:=W_.2 hy;have h8:y∈b::Bo++B':=by
     refine W_.1 ?_;rw[<-c2 y];exact h7
    simp only[List.cons_append,List.mem_cons,u_]at h8;rcases h8 with rfl|h8|h8
    ·exact PI
    ·exact PJ y h8
    ·exact h6 y h8
   ·rcases u_.1 hz with h7|h7
    ·exact ok.bd z (List.mem_of_mem_take h7)
    ·rcases List.mem_cons.1 h7 with rfl|h7
     ·exact h5
     ·exact ok.bd z (List.mem_of_mem_drop h7)
  have N1:=ok.bd _ (x_ h1l);have Ep:g b=none:=xd b (ef b (by simp));obtain⟨xs,B0,B1,oC,hR,hBB⟩:=ocp;have HE:=hR.len;have e1:fj (dz g1 bb vb (q1+1+1+1)) b (0+1*2) 2=some [.int .i64 cs[1].bU,.slice wp cs[1].fields.length wc]:=by
   refine bK (aY r4.free) ?_;rw[bO hb 2 (0+1*2) (by simp;omega),List.append_assoc,show 0+1*2=pre.length by omega,List.drop_left];rfl
  have ada:∀ y∈B1,y ∉ B0:=λy h1 h2=>by
   have:=J1 y;have:=W_.2 h1;have:=W_.2 h2;rw[hBB]at *;simp only[Y_]at *;omega
  have fin:∀(v':Value) (g6:Heap) (B6:List Nat),g.le g6->bC g6 bb vb (q1+1+1+1)->cr 2 g6 v' (xs++[[.int .i64 cs[1].bU,.slice wp cs[1].fields.length wc],[.int .i64 cs[1].bU,.slice wp cs[1].fields.length wc],[.int .i64 cs[1].bU,.slice wp cs[1].fields.length wc],[.int .i64 cs[1].bU,.slice wp cs[1].fields.length wc]]) B6->(∀ y∈B6,g y=none)->(∀ y,y ∉ B0->g1 y≠none->g6 y=g1 y) ->
    ∃ g' q,dz g6 bb vb (q1+1+1+1)=dz g' bb vb q/\g.le g'/\g' bb=none/\p<=q/\q<=p+120/\C5 g0 g' v':=λv' g6 B6 k1 k2 k3 k4 k5=>by
   have f:=k3.form;obtain⟨p6,c6,rfl,_⟩:=f;have kp:∀ C:List Nat,(∀ y∈C,y∈B/\y ∉ B0)->cR g1 (since g0 g6) C:=λC hC y hy o ho=>by
    rw[fE (br h0 (xd y (hC y hy).1)),k5 y (hC y hy).2 (by rw[ho];simp)];exact ho
   have hR6:=hR.aJ tM (kp B1 λy hy=>⟨by rw[hBB];simp[hy],ada y hy⟩);have hBi:∀ y∈Bi,y∈B/\y ∉ B0:=λy hy=>⟨ef y (by simp[hy]),λhm=>by
    obtain⟨_,⟨he,_,_⟩|⟨b',_,_,_,he,_,_,_,hB0⟩⟩:=oC
    ·cases he
    ·simp only[Z_,v_,Addr.mk.injEq]at he;rw[hB0,V_,<-he.1.1]at hm;exact Rd (by rw[<-hm];exact hy)⟩
   have ow6:pz (since g0 g6) [.int .i64 cs[1].bU,.slice wp cs[1].fields.length wc] cs[1] Bi:=⟨_,rfl,ow.aJ (kp Bi hBi)⟩
   have rdK:∀(x:List Value) (c:eD) (C:List Nat),pz (since g0 g6) x c C->E0 c->Ap (since g0 g6) x c:=λx c C ho hc=>by
    obtain⟨w,e,o⟩:=ho;exact⟨w,e,hc.1,cr.C4 o (by have:=hc.2.1;omega) λt ht=>⟨rfl,hc.2.2 t ht⟩⟩
   refine⟨_,_,rfl,k1,k2.free,by omega,by omega,_,_,_,cs++[cs[1],cs[1],cs[1],cs[1]],rfl,(k3.aJ (kQ λy hy=>br h0 (k4 y hy))).TA (by simp[HE]) (by simp;omega) λi h1 h2=>?_⟩;by_cases hi:i < cs.length
   ·rw[List.getElem_append_left (by omega),List.getElem_append_left hi];obtain⟨C,hC⟩:=hR6.mem i hi (by omega);exact rdK _ _ C hC (ok.bd _ (x_ hi))
   ·simp only[U_,List.length_cons,List.length_nil]at h2;have h3:i=cs.length\/i=cs.length+1\/i=cs.length+2\/i=cs.length+3:=by omega
    have key:=rdK _ _ Bi ow6 (ok.bd _ (x_ h1l));rcases h3 with rfl|rfl|rfl|rfl;all_goals
     rw[List.getElem_append_right (by omega),List.getElem_append_right (by omega)];simp only[HE,Nat.sub_self,Nat.add_sub_cancel_left,List.getElem_cons_zero,List.getElem_cons_succ];exact key
  repeat' ((first|exact trivial|apply T_|refine dJ e1 ?_|refine ptr ?_|refine aq ?_|refine oB r r4 (ys:=[[.int .i64 cs[1].bU,.slice wp cs[1].fields.length wc],[.int .i64 cs[1].bU,.slice wp cs[1].fields.length wc],[.int .i64 cs[1].bU,.slice wp cs[1].fields.length wc],[.int .i64 cs[1].bU,.slice wp cs[1].fields.length wc]]) oC (λy hy=>xd y (by rw[hBB];simp[hy])) l1 rfl rfl (by simp) rfl rfl (by simp;omega) (by simp;omega) (λv' g6 B6 k1 k2 k3 k4 k5 k6=>?_)|exact fin _ _ _ k1 k2 k3 k4 k5)<;>conv=>whnf)
 apply ax<;>intro gf;all_goals conv=>whnf
 ·skip
  have tX:cs=cs.take x.toNat++cs[x.toNat]::cs.drop (x.toNat+1):=by rw[<-List.drop_eq_getElem_cons hx,List.take_append_drop]
  have PF:eN pz 2 g1 (.slice cp cs.length cc) (cs.take x.toNat++cs[x.toNat]::cs.drop (x.toNat+1)) B:=by rw[<-tX];exact oc
  have f:=PF.at tM;obtain⟨b,c,xr,pre,post,t,Bo,Bi,e,N0,hb,fV,tI,hR,js,fe⟩:=f;simp only[Z_]at e;obtain⟨hq,_,C6⟩:=e;subst hq C6;obtain⟨w,rfl,ow⟩:=hR;have f:=ow.form;obtain⟨wp,wc,rfl,PG⟩:=f;have Dg:(cs[x.toNat].fields.map bN).length=cs[x.toNat].fields.length:=by simp
  rw[Dg]at hb ow PG;have lF:pre.length=x.toNat*2:=by rw[fV,List.length_take,Nat.min_eq_left (by omega)]
  have ef:∀ y,y∈b::Bo++Bi->y∈B:=λy hy=>by
   have h1:=W_.2 hy;refine W_.1 ?_;rw[js y];exact h1
  have hnd:Nd (b::Bo++Bi):=J1.perm λa=>(js a).symm;have Rc:b ∉ Bo:=λhm=>by have:=hnd b;have:=W_.2 hm;simp only[List.cons_append,X_,Y_,beq_self_eq_true,if_true]at *;omega
  have Rd:b ∉ Bi:=λhm=>by have:=hnd b;have:=W_.2 hm;simp only[List.cons_append,X_,Y_,beq_self_eq_true,if_true]at *;omega
  have MP:∀ y∈Bo,y ∉ Bi:=λy h1 h2=>by have:=hnd y;have:=W_.2 h1;have:=W_.2 h2;simp only[List.cons_append,X_,Y_]at *;omega
  have PI:g0 b=none:=br h0 (xd b (ef b (by simp)));have PJ:∀ y∈Bo,g0 y=none:=λy hy=>br h0 (xd y (ef y (by simp[hy])));have fri:∀ y∈Bi,g0 y=none:=λy hy=>br h0 (xd y (ef y (by simp[hy])));have done:∀(g':Heap) (x':List Value) (a':eD) (B':List Nat),g' b=some (.cells (pre++x'++post).toArray t (0,0))->x'.length=2->pz g' x' a' B'->cR g1 g' Bo->E0 a'->(∀ y∈B',g0 y=none)->C5 g0 g' (.slice (some ⟨b,0,none⟩) cs.length cc):=λg' x' a' B' h1 h2 h3 h4 h5 h6=>by
   obtain⟨B2,o2,c2⟩:=fe g' x' a' B' h1 h2 h3 h4;refine⟨_,_,_,_,rfl,mO o2 (λy hy=>?_) (λz hz=>?_) (by simp;omega)⟩
   ·have h7:=W_.2 hy;have h8:y∈b::Bo++B':=by
     refine W_.1 ?_;rw[<-c2 y];exact h7
    simp only[List.cons_append,List.mem_cons,u_]at h8;rcases h8 with rfl|h8|h8
    ·exact PI
    ·exact PJ y h8
    ·exact h6 y h8
   ·rcases u_.1 hz with h7|h7
    ·exact ok.bd z (List.mem_of_mem_take h7)
    ·rcases List.mem_cons.1 h7 with rfl|h7
     ·exact h5
     ·exact ok.bd z (List.mem_of_mem_drop h7)
  have N1:=ok.bd _ (x_ hx);have Ep:g b=none:=xd b (ef b (by simp));refine lV [.int .i64 1,.int .i64 1,.int .i64 1] r4 rfl (λbf g6 kz nbf l6 r6 e6=>?_);conv=>whnf
  have xX:=l6 _ _ hb;have nbb:b≠bf:=by rintro rfl;rw[kz]at hb;cases hb
  refine aq ?_;conv=>whnf
  refine ptr ?_;conv=>whnf
  refine jS r6.free xX (by simp;omega) (jZ (i:=1) (by simp only;omega) (by simp)) ?_;conv=>whnf
  have QF:dR g6 (.slice (some ⟨bf,0,none⟩) 3 3) [1,1,1] [bf]:=⟨by simp[bN],.inr ⟨bf,3,[],_,rfl,by simp,e6,by simp[bN],rfl⟩⟩
  refine⟨_,_,rfl,Heap.aP (y_ l1 l6) Ep,?_,by omega,by omega,done _ [.int .i64 cs[x.toNat].bU,.slice (some ⟨bf,0,none⟩) 3 3] ⟨cs[x.toNat].bU,[1,1,1]⟩ [bf] (dh _ _ _) rfl ⟨_,rfl,QF.aJ (kR (by simpa using nbb))⟩ (λc hc o ho=>kR Rc c hc o (l6 _ _ ho)) ⟨N1.1,by simp,λt ht=>by simp at ht;subst ht;unfold cY;omega⟩ (λy hy=>by rw[V_.1 hy];exact br (y_ h0 l1) kz)⟩;have cH:bb≠b:=λe=>by have:=r6.free;rw[e,xX]at this;cases this
  simp[Heap.set,cH,r6.free]
 ·skip
  have tX:cs=cs.take x.toNat++cs[x.toNat]::cs.drop (x.toNat+1):=by rw[<-List.drop_eq_getElem_cons hx,List.take_append_drop]
  have PF:eN pz 2 g1 (.slice cp cs.length cc) (cs.take x.toNat++cs[x.toNat]::cs.drop (x.toNat+1)) B:=by rw[<-tX];exact oc
  have f:=PF.at tM;obtain⟨b,c,xr,pre,post,t,Bo,Bi,e,N0,hb,fV,tI,hR,js,fe⟩:=f;simp only[Z_]at e;obtain⟨hq,_,C6⟩:=e;subst hq C6;obtain⟨w,rfl,ow⟩:=hR;have f:=ow.form;obtain⟨wp,wc,rfl,PG⟩:=f;have Dg:(cs[x.toNat].fields.map bN).length=cs[x.toNat].fields.length:=by simp
  rw[Dg]at hb ow PG;have lF:pre.length=x.toNat*2:=by rw[fV,List.length_take,Nat.min_eq_left (by omega)]
  have ef:∀ y,y∈b::Bo++Bi->y∈B:=λy hy=>by
   have h1:=W_.2 hy;refine W_.1 ?_;rw[js y];exact h1
  have hnd:Nd (b::Bo++Bi):=J1.perm λa=>(js a).symm;have Rc:b ∉ Bo:=λhm=>by have:=hnd b;have:=W_.2 hm;simp only[List.cons_append,X_,Y_,beq_self_eq_true,if_true]at *;omega
  have Rd:b ∉ Bi:=λhm=>by have:=hnd b;have:=W_.2 hm;simp only[List.cons_append,X_,Y_,beq_self_eq_true,if_true]at *;omega
  have MP:∀ y∈Bo,y ∉ Bi:=λy h1 h2=>by have:=hnd y;have:=W_.2 h1;have:=W_.2 h2;simp only[List.cons_append,X_,Y_]at *;omega
  have PI:g0 b=none:=br h0 (xd b (ef b (by simp)));have PJ:∀ y∈Bo,g0 y=none:=λy hy=>br h0 (xd y (ef y (by simp[hy])));have fri:∀ y∈Bi,g0 y=none:=λy hy=>br h0 (xd y (ef y (by simp[hy])));have done:∀(g':Heap) (x':List Value) (a':eD) (B':List Nat),g' b=some (.cells (pre++x'++post).toArray t (0,0))->x'.length=2->pz g' x' a' B'->cR g1 g' Bo->E0 a'->(∀ y∈B',g0 y=none)->C5 g0 g' (.slice (some ⟨b,0,none⟩) cs.length cc):=λg' x' a' B' h1 h2 h3 h4 h5 h6=>by
   obtain⟨B2,o2,c2⟩:=fe g' x' a' B' h1 h2 h3 h4;refine⟨_,_,_,_,rfl,mO o2 (λy hy=>?_) (λz hz=>?_) (by simp;omega)⟩
   ·have h7:=W_.2 hy;have h8:y∈b::Bo++B':=by
     refine W_.1 ?_;rw[<-c2 y];exact h7
    simp only[List.cons_append,List.mem_cons,u_]at h8;rcases h8 with rfl|h8|h8
    ·exact PI
    ·exact PJ y h8
    ·exact h6 y h8
   ·rcases u_.1 hz with h7|h7
    ·exact ok.bd z (List.mem_of_mem_take h7)
    ·rcases List.mem_cons.1 h7 with rfl|h7
     ·exact h5
     ·exact ok.bd z (List.mem_of_mem_drop h7)
  have N1:=ok.bd _ (x_ hx);have Ep:g b=none:=xd b (ef b (by simp));refine aq ?_;conv=>whnf
  refine ptr ?_;conv=>whnf
  refine jS r4.free hb (by simp;omega) (jZ (i:=1) (by simp only;omega) (by simp)) ?_;conv=>whnf
  refine⟨_,_,rfl,Heap.aP l1 Ep,?_,by omega,by omega,done _ [.int .i64 cs[x.toNat].bU,.slice none 0 0] ⟨cs[x.toNat].bU,[]⟩ [] (dh _ _ _) rfl ⟨_,rfl,by simp,.inl ⟨rfl,rfl,rfl⟩⟩ (kR Rc) ⟨N1.1,by simp,by simp⟩ (by simp)⟩;have cH:bb≠b:=λe=>by have:=r4.free;rw[e,hb]at this;cases this
  simp[Heap.set,cH,r4.free]
theorem BC {u:aO} {m:cL} {x:ez} (h:eU u m x):∃ p q,tH x.kind=some (p,q)/\(1<=x.kind/\x.kind<=24)/\bz u m x.a p x.a/\bz u m x.a q x.b/\(p=4↔8<=x.kind/\x.kind<=11)/\(q=0\/q=8\/q=9)/\(q=0\/p=5)/\(0<=p/\p<=7):=by
 obtain⟨p,q,hk,h1,h2⟩:=h;refine⟨p,q,hk,?_⟩;rcases F1 x.kind with ⟨_,h⟩|⟨i,a,b,hf,hw,_⟩
 ·rw[h]at hk;cases hk
 ·rw[hk]at hw;simp only[v_,Prod.mk.injEq]at hw;obtain⟨rfl,rfl⟩:=hw;have hm:=sF _ _ hf;simp only[ku,eX,List.mem_cons,List.not_mem_nil,or_false,Prod.mk.injEq,Value.agg.injEq,Array.mk.injEq,List.cons.injEq,Value.int.injEq,true_and,and_true]at hm;refine(λhx:(1<=x.kind/\x.kind<=24)/\(p=4↔8<=x.kind/\x.kind<=11)/\(q=0\/q=8\/q=9)/\(q=0\/p=5)/\(0<=p/\p<=7)=>⟨hx.1,h1,h2,hx.2⟩) ?_;omega
theorem E1 {u:aO} {m:cL} {a jY n:Int} (h:bz u m a jY n) (hw:jY=8->0<=a/\a < u.J.length) (ok:cI u.J) (hn:u.methods.length<=100) (hl:m.locals<=1000) (hc:m.code.length<=1000) : -1000<=n/\n<=1000:=by
 unfold bz at h;have:=ok.2.1;by_cases h1:jY=1
 ·rw[if_pos h1]at h;have:=fJ.1 h;omega
 rw[if_neg h1]at h;by_cases h2:jY=2
 ·rw[if_pos h2]at h;omega
 rw[if_neg h2]at h;by_cases h3:jY=3
 ·rw[if_pos h3]at h;omega
 rw[if_neg h3]at h;by_cases h4:jY=4
 ·rw[if_pos h4]at h;omega
 rw[if_neg h4]at h;by_cases h5:jY=5
 ·rw[if_pos h5]at h;omega
 rw[if_neg h5]at h;by_cases h6:jY=6
 ·rw[if_pos h6]at h;omega
 rw[if_neg h6]at h;by_cases h7:jY=7
 ·rw[if_pos h7]at h;omega
 rw[if_neg h7]at h;by_cases h8:jY=8
 ·rw[if_pos h8]at h;have:=eH ok (hw h8).2;omega
 rw[if_neg h8]at h;by_cases h9:jY=9
 ·rw[if_pos h9]at h;omega
 rw[if_neg h9]at h;omega
theorem vW {u:aO} {m:cL} {x:ez} (h:eU u m x) (ok:cI u.J) (hn:u.methods.length<=100) (hl:m.locals<=1000) (hc:m.code.length<=1000):(1<=x.kind/\x.kind<=24)/\(-1000<=x.a/\x.a<=1000)/\-1000<=x.b/\x.b<=1000:=by
 obtain⟨p,q,_,hk,h1,h2,_,_,h5,h6⟩:=BC h;refine⟨hk,E1 h1 (λe=>by omega) ok hn hl hc,E1 h2 (λe=>?_) ok hn hl hc⟩;have hp:p=5:=by omega
 subst hp;exact h1
theorem zQ {u:aO} {m m':cL} {a jY n:Int} (h:bz u m a jY n) (hw:jY≠4) (hl:m'.locals=m.locals):bz u m' a jY n:=by
 unfold bz at h ⊢;rw[if_neg hw]at h ⊢;rw[hl];exact h
theorem Jw {u:aO} {m m':cL} {x:ez} (h:eU u m x) (hk:¬(8<=x.kind/\x.kind<=11)) (hl:m'.locals=m.locals):eU u m' x:=by
 obtain⟨p,q,hw,_,h1,h2,h3,h4,_⟩:=BC h;exact⟨p,q,hw,zQ h1 (λe=>hk (h3.1 e)) hl,zQ h2 (λe=>by omega) hl⟩
theorem Jx {u:aO} {m:cL} {x:ez} (hk:8<=x.kind/\x.kind<=11) (ha:0<=x.a/\x.a < m.code.length) (hb:x.b=0):eU u m x:=by
 have DA:x.kind=8\/x.kind=9\/x.kind=10\/x.kind=11:=by omega
 refine⟨4,0,?_,ha,?_⟩
 ·rcases DA with e|e|e|e<;>(rw[e];rfl)
 ·unfold bz;simp[hb]
def Good (u:aO) (m:cL) (L:Int) (x:ez):Prop:=(eU u {m with code:=[x]} x/\¬(8<=x.kind/\x.kind<=11))\/((8<=x.kind/\x.kind<=11)/\(0<=x.a/\x.a < L)/\x.b=0)
theorem Good.ins {u:aO} {m m':cL} {L:Int} {x:ez} (h:Good u m L x) (hl:m'.locals=m.locals) (hc:(m'.code.length:Int)=L):eU u m' x:=by
 rcases h with ⟨h1,h2⟩|⟨h1,h2,h3⟩
 ·exact Jw h1 h2 hl
 ·exact Jx h1 (by omega) h3
theorem Ig {u:aO} {m:cL} {x:ez} (h:vU u m x) (ok:cI u.J) (hn:u.methods.length<=100) (hl:m.locals<=1000):(1<=x.kind/\x.kind<=24)/\(-1000<=x.a/\x.a<=1000)/\-1000<=x.b/\x.b<=1000:=by
 rcases h with ⟨h1,_⟩|⟨h1,h2,h3⟩
 ·exact vW h1 ok hn hl (by simp)
 ·omega
def xZ (x:nK):List Value:=[.int .i64 x.lo,.int .i64 x.hi,.int .i64 x.to,.int .i64 x.cls]
structure lX (gB g:Heap) (code:List ez) (pc:Option Addr) (cc:Nat) (Bc:List Nat) (el:List Int) (pe:Option Addr) (ce:Nat) (Be:List Nat) (ks:List nK) (kv:Value) (Bk:List Nat):Prop where
 le:gB.le g
 oc:EV g (.slice pc code.length cc) code Bc
 oe:dR g (.slice pe el.length ce) el Be
 ok:cr 4 g kv (ks.map xZ) Bk
 kf:(kv=.slice none 0 0/\ks=[])\/∃ bk,kv=.slice (some ⟨bk,0,none⟩) 1 1/\ks.length=1
 nd:Nd (Bc++(Be++Bk))
 fr:∀ b∈Bc++(Be++Bk),gB b=none
section
variable {gB g g':Heap} {code:List ez} {pc:Option Addr} {cc:Nat} {Bc:List Nat} {el:List Int} {pe:Option Addr} {ce:Nat} {Be:List Nat} {ks:List nK} {kv:Value} {Bk:List Nat}
theorem lX.in (h:lX gB g code pc cc Bc el pe ce Be ks kv Bk):∀ b∈Bc++(Be++Bk),∃ o,g b=some o :=
 λb hb=>(u_.1 hb).elim (h.oc.in b) λhb=>(u_.1 hb).elim (h.oe.in b) (h.ok.in b)
theorem lX.aJ (h:lX gB g code pc cc Bc el pe ce Be ks kv Bk) (hl:g.le g'):lX gB g' code pc cc Bc el pe ce Be ks kv Bk :=
 ⟨y_ h.le hl,h.oc.aJ (cR.of_le hl _),h.oe.aJ (cR.of_le hl _),h.ok.aJ (cR.of_le hl _),h.kf,h.nd,h.fr⟩
theorem lX.of {u:aO} {m:cL} (h:lH gB g u m code pc cc Bc el pe ce Be):lX gB g code pc cc Bc el pe ce Be [] (.slice none 0 0) [] :=
 ⟨h.le,h.oc,h.oe,⟨by simp,.inl ⟨rfl,rfl,rfl⟩⟩,.inl ⟨rfl,rfl⟩,by simpa using h.nd,by simpa using h.fr⟩
theorem lX.app {bb:Nat} {vb:Value} {q0 q:Int} {n mm bytes:Nat} {zero vs:List Value} {ty:TypeId} {K:Value->Heap->Prop} (h:lX gB g code pc cc Bc el pe ce Be ks kv Bk) (r0:bC gB bb vb q0) (r:bC g bb vb q) (xs:List ez) (hn:n=code.length) (hm:mm=xs.length) (hv:vs=(xs.map dV).flatten) (GO:eu vs=true) (hl:code.length<=1000) (hx:xs.length<=10) (hz:zero.length=3) (hb:bytes<=1000)
  (hk:∀ p' c' g' B',lX gB g' (code++xs) p' c' B' el pe ce Be ks kv Bk->bC g' bb vb q->K (.slice p' (code++xs).length c') (dz g' bb vb q)):App bytes 3 zero ty (dz g bb vb q) pc n cc mm vs K:=by
 subst hn hv hm;have fW:=h.in;have hm:((code.map dV).length+(xs.map dV).length)*bytes<=1010*1000:=Nat.mul_le_mul (by simp;omega) hb;refine Go.Proofs.oB r0 r (ys:=xs.map dV) h.oc (λb hb=>h.fr b (by simp[hb])) h.le rfl (by simp) (λy hy=>by obtain⟨x,_,rfl⟩:=List.mem_map.1 hy;rfl) GO hz (by omega) (by simp;omega) ?_;intro v' g' B' k1 k2 k3 k4 k5 k6;have ER:EV g' v' (code++xs) B':=by unfold EV;rw[List.map_append];exact k3
 obtain⟨p',c',rfl,_⟩:=cr.form ER;have tn:((code++xs).map dV).length=(code++xs).length:=by simp
 rw[tn]at ER ⊢;have ev:Ev g g' Bc B':=⟨λb hb hs=>k5 b hs hb,k6⟩
 refine hk p' c' g' B' ⟨k1,ER,h.oe.aJ (ev.aJ λb hb hc=>wZ h.nd b hc (by simp[hb])),h.ok.aJ (ev.aJ λb hb hc=>wZ h.nd b hc (by simp[hb])),h.kf,?_,λb hb=>?_⟩ k2
 ·have:=Nd.swap (A:=Be++Bk) (X:=Bc) (X':=B') (h.nd.perm λa=>by simp only[Y_];omega) ER.nd (λb hb=>(k6 b hb).imp id λhn hm=>by
   obtain⟨o,ho⟩:=fW b (by simp at hm ⊢;grind);rw[hn]at ho;cases ho)
  exact this.perm λa=>by simp only[Y_];omega
 ·rcases u_.1 hb with h1|h1
  ·exact k4 b h1
  ·exact h.fr b (by simp at h1 ⊢;grind)
theorem lX.cat {bb:Nat} {vb:Value} {q:Int} {cs:List Value} {t:TypeId} {K:Nat->Heap->Prop} (h:lX gB g code pc cc Bc el pe ce Be [] (.slice none 0 0) []) (r:bC g bb vb q) (x:nK) (hc:cs=xZ x)
  (hk:∀ b g',lX gB g' code pc cc Bc el pe ce Be [x] (.slice (some ⟨b,0,none⟩) 1 1) [b]->bC g' bb vb q->K b (dz g' bb vb q)):JQ (dz g bb vb q) cs t K:=by
 refine lV (xZ x) r hc (λb g' hb nb l r' e=>?_);have fW:=h.in;have h':=h.aJ l;refine hk b g' ⟨h'.le,h'.oc,h'.oe,⟨by simp[xZ],.inr ⟨b,1,[],t,by simp,by simp,by simpa using e,by simp[xZ],rfl⟩⟩,.inr ⟨b,rfl,rfl⟩,?_,λc hc=>?_⟩ r'
 ·have h1:Nd (Bc++Be):=by have:=h.nd;simpa using this
  have:=Nd.two h1 (B:=[b]) (λa=>by simp only[X_,List.count_nil];split<;>omega) (λc hc hm=>by
   rw[V_.1 hc]at hm;obtain⟨o,ho⟩:=fW b (by simpa using hm);rw[hb]at ho;cases ho)
  exact this.perm λa=>by simp only[Y_];omega
 ·simp only[u_,V_]at hc;rcases hc with hc|hc|rfl
  ·exact h.fr c (by simp[hc])
  ·exact h.fr c (by simp[hc])
  ·exact br h.le hb
theorem lX.at (h:lX gB g code pc cc Bc el pe ce Be ks kv Bk) {i:Nat} (hi:i < code.length):∃ b,pc=some ⟨b,0,none⟩/\fj g b (0+i*3) 3=some (dV code[i]) /\
  ∃ pre post t,g b=some (.cells (pre++dV code[i]++post).toArray t (0,0))/\pre.length=i*3/\∀ y g',g'=g.set b (.cells (pre++dV y++post).toArray t (0,0))->lX gB g' (code.set i y) pc cc Bc el pe ce Be ks kv Bk:=by
 have Dj:code.map dV=(code.take i).map dV++dV code[i]::(code.drop (i+1)).map dV:=by
  rw[<-List.map_cons,<-List.map_append,<-List.drop_eq_getElem_cons hi,List.take_append_drop]
 have oc:=h.oc;unfold EV at oc;rw[Dj]at oc;obtain⟨b,c,pre,post,t,e,hb,hp,_,hB,fe⟩:=oc.at;simp only[Z_]at e;obtain⟨rfl,_,rfl⟩:=e;subst hB;have lF:pre.length=i*3:=by rw[hp,List.length_map,List.length_take,Nat.min_eq_left (by omega)]
 refine⟨b,rfl,?_,pre,post,t,hb,lF,λy g' e=>?_⟩
 ·rw[bO hb 3 (0+i*3) (by simp[lF,dV])];rw[List.append_assoc,Nat.zero_add,<-lF,List.drop_left];rfl
 ·have g5:g' b=some (.cells (pre++dV y++post).toArray t (0,0)):=by rw[e];exact dh _ _ _
  have o2:=fe g' (dV y) g5 rfl;have Ak:(code.set i y).map dV=(code.take i).map dV++dV y::(code.drop (i+1)).map dV:=by
   rw[List.set_eq_take_append_cons_drop,if_pos hi];simp
  have kp:cR g g' (Be++Bk):=λc hc o ho=>by
   have:c≠b:=λe=>wZ h.nd b (by simp) (by rw[<-e];exact hc);rw[e];simp only[Heap.set,this,if_false];exact ho
  refine⟨?_,?_,h.oe.aJ kp.l,h.ok.aJ kp.r,h.kf,h.nd,h.fr⟩
  ·rw[e];exact Heap.aP h.le (h.fr b (by simp))
  ·unfold EV;rw[Ak,List.length_set];exact o2
end
open Go.Vc Go.Proofs.Tryz
set_option maxRecDepth 100000
set_option maxHeartbeats 4000000
structure adb (Gb:Heap) (rec:List Value) (m:cL) (a:Value):Prop where
 form:∃ bc cc bs cs kv,rec=[.int .i64 m.cls,.int .i64 m.fG,a,.int .i64 m.out,.int .i64 m.locals,.slice (some ⟨bc,0,none⟩) m.code.length cc,.slice (some ⟨bs,0,none⟩) m.aQ.length cs,kv]/\(Gb bc=none/\Gb bs=none) /\
  ((kv=.slice none 0 0/\m.catches=[])\/∃ bk,kv=.slice (some ⟨bk,0,none⟩) 1 1/\m.catches.length=1)
def zR (m m':cL):Prop:=m'.cls=m.cls/\m'.fG=m.fG/\m'.args=m.args/\m'.out=m.out/\m'.locals=m.locals
theorem zR.Re {n:Nat} {m m':cL} (h:zR m m') (hH:fQ n m):fQ n m':=by
 obtain⟨h1,h2,h3,h4,h5⟩:=h;unfold fQ cG at hH ⊢;rw[h1,h2,h3,h4,h5];exact hH
structure Ih (Gb G:Heap) (u:aO) (m:cL) (a:Value) (rec:List Value) (m':cL):Prop where
 same:zR m m'
 read:eM G rec m'
 ms:Uy u m'
 form:adb Gb rec m' a
theorem zS {n:Nat} {m:cL} (hH:fQ n m) (hn:n<=5):cY m.cls/\cY m.fG/\cY m.out/\cY m.locals:=by
 unfold fQ dg at hH;have Ai:0<=m.locals:=by have:=hH.2.2.2.2.2;omega
 obtain⟨h1,_,h2,_,h3,_⟩:=hH;unfold cY;omega
theorem jF {α:Type} {sz:Nat} {R:Heap->List Value->α->Prop} (h:Heap):Row sz R h (.slice none 0 0) ([]:List α):=⟨by simp,none,0,rfl,by simp,.inl rfl⟩
theorem BD {g:Heap} {n:Nat} {m:cL} {a:Value} (hH:fQ n m) (hn:n<=5) (ha:dy g a m.args) (e1:m.code=[]) (e2:m.aQ=[]) (e3:m.catches=[]):eM g (eR m.cls m.fG a m.out m.locals) m:=by
 obtain⟨i1,i2,i3,i4⟩:=zS hH hn;exact⟨a,_,_,_,rfl,i1,i2,i3,i4,ha,by rw[e1];exact jF g,by rw[e2];exact jF g,by rw[e3];exact jF g⟩
theorem Ii {h:Heap} {b n sz:Nat} {vs:List Value} {K:List Value->Prop} (hr:fj h b 0 (n*sz)=some vs) (hk:K vs):Ua h (some ⟨b,0,none⟩) (n*sz) K:=by
 rw[uH];unfold Fz;exact .inr ⟨b,0,vs,rfl,hr,hk⟩
theorem Ij {a:Int} {n:Nat} (ha:0<=a) (hn:0 < n):0<=a.tmod n/\a.tmod n < n:=by
 rw[Int.tmod_eq_emod_of_nonneg ha];exact⟨Int.emod_nonneg _ (by omega),Int.emod_lt_of_pos _ (by omega)⟩
theorem xP {h:Heap} {p:Option Addr} {n c:Nat} {l:List Int} {B:List Nat} (ho:dR h (.slice p n c) l B) {i:Nat} (hi:i < l.length):∃ b,p=some ⟨b,0,none⟩/\rd h b (0+i*1)=some (.int .i64 l[i]):=by
 obtain⟨_,⟨he,hn,_⟩|⟨b,c',rest,t,he,hc,hb,_,_⟩⟩:=ho
 ·have:l=[]:=by simpa using hn
  subst this;simp at hi
 ·simp only[Z_]at he;obtain⟨rfl,_,_⟩:=he;refine⟨b,rfl,?_⟩;rw[ek]at hb;simp only[rd,hb,List.getElem?_toArray,Nat.zero_add,Nat.mul_one];rw[List.getElem?_append_left (by simpa using hi)];simp[hi]
theorem E2 {gB g g0:Heap} {code:List ez} {pc:Option Addr} {cc:Nat} {Bc:List Nat} {el:List Int} {pe:Option Addr} {ce:Nat} {Be:List Nat} {ks:List nK} {kv:Value} {Bk:List Nat} (h:lX gB g code pc cc Bc el pe ce Be ks kv Bk) (hl:g0.le gB) (hn:code.length<=100)
  (hg:∀ x∈code,(1<=x.kind/\x.kind<=24)/\(-1000<=x.a/\x.a<=1000)/\-1000<=x.b/\x.b<=1000):Row 3 DU (since g0 g) (.slice pc code.length cc) code :=
 (h.oc.aJ (kQ λb hb=>br hl (h.fr b (by simp[hb])))).C4 (by omega) λx hx=>⟨rfl,by
  have:=hg x hx;unfold cY;omega⟩
theorem BE {gB g:Heap} {code:List ez} {pc:Option Addr} {cc:Nat} {Bc:List Nat} {el:List Int} {pe:Option Addr} {ce:Nat} {Be:List Nat} {ks:List nK} {kv:Value} {Bk:List Nat} (h:lX gB g code pc cc Bc el pe ce Be ks kv Bk) (hn:1<=code.length):∃ b,pc=some ⟨b,0,none⟩/\gB b=none:=by
 have ho:=h.oc;obtain⟨_,⟨_,e,_⟩|⟨b,c,rest,t,e,_,_,_,hB⟩⟩:=ho
 ·have:code=[]:=by simpa using e
  subst this;simp at hn
 ·simp only[Z_]at e;exact⟨b,e.1,h.fr b (by rw[hB];simp)⟩
theorem qA {gB g g0:Heap} {code:List ez} {pc:Option Addr} {cc:Nat} {Bc:List Nat} {el:List Int} {pe:Option Addr} {ce:Nat} {Be:List Nat} {ks:List nK} {kv:Value} {Bk:List Nat} {m:cL} {n:Nat} {a cv:Value} {cl:List ez}
  (h:lX gB g code pc cc Bc el pe ce Be ks kv Bk) (hl:g0.le gB) (hH:fQ n m) (hn5:n<=5) (ha:dy (since g0 gB) a m.args) (hc:Row 3 DU (since g0 g) cv cl) (hk:∀ x∈ks,(0<=x.lo/\x.lo < x.hi/\x.hi<=100/\0<=x.to/\x.to < 100)/\x.cls=1) :
  eM (since g0 g) [.int .i64 m.cls,.int .i64 m.fG,a,.int .i64 m.out,.int .i64 m.locals,cv,.slice none 0 0,kv] {m with code:=cl,aQ:=[],catches:=ks}:=by
 obtain⟨i1,i2,i3,i4⟩:=zS hH hn5;refine⟨a,_,_,_,rfl,i1,i2,i3,i4,ha.le (cF g0 h.le),hc,jF _,(h.ok.aJ (kQ λb hb=>br hl (h.fr b (by simp[hb])))).C4 ?_ λx hx=>⟨rfl,?_⟩⟩
 ·rcases h.kf with ⟨_,e⟩|⟨_,_,e⟩
  ·simp[e]
  ·omega
 ·have:=hk x hx;unfold cY;omega
theorem Jy {g0 g:Heap} {bb:Nat} {vb:Value} {p:Int} (us:List Value) (u:aO) (m:cL) (a:Value) (r:bC g bb vb p) (hp:p<=40000000) (h0:g0.le g) (hu:dG (since g0 g) us u) (ha:dy (since g0 g) a m.args) (hV:GI u) (hn:u.methods.length<=100) (hH:fQ u.J.length m) (e1:m.code=[]) (e2:m.aQ=[]) (e3:m.catches=[]) :
  Dr prog 106 [.pointer (some ⟨bb,0,none⟩),.agg ⟨us⟩,.agg ⟨eR m.cls m.fG a m.out m.locals⟩] g bb vb p 2100 λg' v=>∃ rec m',v=.agg ⟨rec⟩/\Ih (since g0 g) (since g0 g') u m a rec m':=by
 have ok:=hV.1;have E3:=ok.2.1;have tQ:=hH.2.2.2.2.1;have Ai:0<=m.locals:=by have:=hH.2.2.2.2.2;omega
 have hm:=BD hH E3 (ha.le (aM g0 g)) e1 e2 e3;have AG:=λp1 (r1:bC g bb vb p1) xK Ax Ic=>Jv us (eR m.cls m.fG a m.out m.locals) u m Ax r1 xK (hu.le (aM g0 g)) hm hV hn hH Ic;have iw:=hu;obtain⟨cp,cc,q,d,rfl,hcs,fM,ji,hl2⟩:=hu.form;obtain⟨ap,ac,rfl,Sy,Y5⟩:=ha.len;refine bZ au func106 Vw Vx rfl ?_;unfold eR;conv=>whnf
 refine bF r (by omega) (λx x0 x1 x2 r1=>?_);conv=>whnf
 apply ax<;>intro gc;all_goals conv=>whnf
 rotate_left
 refine gY r1 (AG _ r1 (by omega) _ (by omega)) (λv g2 q2 l2 r2 q20 q21 hA=>?_);obtain⟨code,pc,kc,Bc,el,pe,ke,Be,rfl,hB,Ic⟩:=hA;have hF0:=lX.of hB;conv=>whnf
 refine cM gc ?_;conv=>whnf
 have hX:∀ j (h:j < code.length),(j < 0\/code.length<=j->Good u m ((code.length:Int)+2) code[j])/\(0<=j->j < code.length->vU u m code[j]):=λj hj=>⟨λh=>by omega,λ_ h=>hB.ins _ (x_ h)⟩
 rotate_left
 refine ah ?_;conv=>whnf
 refine gY r1 (AG _ r1 (by omega) _ (by omega)) (λv g2 q2 l2 r2 q20 q21 hA=>?_);obtain⟨code,pc,kc,Bc,el,pe,ke,Be,rfl,hB,Ic⟩:=hA;have hF0:=lX.of hB;conv=>whnf
 refine gI gc ?_;conv=>whnf
 apply ax<;>intro gn;all_goals conv=>whnf
 ·refine ah ?_;conv=>whnf
  refine hF0.app r r2 [⟨11,(code.length:Int)+2,0⟩,⟨5,0,0⟩] rfl rfl rfl rfl (by omega) (by simp) rfl (Nat.le_of_ble_eq_true rfl) (λpX kX gX BX hF1 rX=>?_);conv=>whnf
  refine ah ?_;conv=>whnf
  refine bF rX (by omega) (λkf kf0 kf1 kf2 rY=>?_);conv=>whnf
  refine ah ?_;conv=>whnf
  refine hF1.cat rY ⟨kf,code.length,(code.length:Int)+1,1⟩ rfl (λbk g3 hF r3=>?_);conv=>whnf
  have hX:∀ j (h:j < (code++[(⟨11,(code.length:Int)+2,0⟩:ez),⟨5,0,0⟩]).length),(j < 0\/code.length<=j->Good u m (((code++[(⟨11,(code.length:Int)+2,0⟩:ez),⟨5,0,0⟩]).length:Int)+2) (code++[(⟨11,(code.length:Int)+2,0⟩:ez),⟨5,0,0⟩])[j])/\(0<=j->j < code.length->vU u m (code++[(⟨11,(code.length:Int)+2,0⟩:ez),⟨5,0,0⟩])[j]):=λj hj=>by
   simp only[U_,List.length_cons,List.length_nil]at hj;refine⟨λh=>?_,λ_ h=>?_⟩
   ·have h2:j=code.length\/j=code.length+1:=by omega
    rcases h2 with rfl|rfl
    ·rw[List.getElem_append_right (by omega)];simp only[Nat.sub_self,List.getElem_cons_zero];exact .inr ⟨by simp,by simp;omega,rfl⟩
    ·rw[List.getElem_append_right (by omega)];simp only[Nat.add_sub_cancel_left,List.getElem_cons_succ,List.getElem_cons_zero];exact .inl ⟨(aI (p:=0) (q:=0) rfl).2 ⟨rfl,rfl⟩,by simp⟩
   ·rw[List.getElem_append_left h];exact hB.ins _ (x_ h)
  have ade:(code++[(⟨11,(code.length:Int)+2,0⟩:ez),⟨5,0,0⟩]).length<=10:=(by first|omega|(simp only[U_,List.length_cons,List.length_nil];omega))
  have adf:code.length<=(code++[(⟨11,(code.length:Int)+2,0⟩:ez),⟨5,0,0⟩]).length:=(by first|omega|(simp only[U_,List.length_cons,List.length_nil];omega))
  have MQ:0<=((code.length:Int)+2:Int)/\((code.length:Int)+2:Int) < ((code++[(⟨11,(code.length:Int)+2,0⟩:ez),⟨5,0,0⟩]).length:Int)+2:=(by first|omega|(simp only[U_,List.length_cons,List.length_nil];omega))
  have el0:=hB.emp;have UB:∀ x∈(([⟨kf,code.length,(code.length:Int)+1,1⟩]:List nK):List nK),(0<=x.lo/\x.lo < x.hi/\x.hi<=((code++[(⟨11,(code.length:Int)+2,0⟩:ez),⟨5,0,0⟩]).length:Int)/\0<=x.to/\x.to < ((code++[(⟨11,(code.length:Int)+2,0⟩:ez),⟨5,0,0⟩]).length:Int))/\x.cls=1:=λx hx=>by
   rw[V_.1 hx];refine⟨⟨?_,?_,?_,?_,?_⟩,rfl⟩<;>(try simp only[U_,List.length_cons,List.length_nil])<;>(try dsimp only)<;>omega
  refine fh [0,4,5,6,9,10,11,12,13] [4,5,6] (λyy:Nat × Heap × List ez=>yy.1<=code.length/\lX g yy.2.1 yy.2.2 pX kX BX el pe ke Be ([⟨kf,code.length,(code.length:Int)+1,1⟩]:List nK) (.slice (some ⟨bk,0,none⟩) 1 1) [bk]/\bC yy.2.1 bb vb (q2+1)/\yy.2.2.length=(code++[(⟨11,(code.length:Int)+2,0⟩:ez),⟨5,0,0⟩]).length/\(∀ j (h:j < yy.2.2.length),(j < yy.1\/code.length<=j->Good u m (((code++[(⟨11,(code.length:Int)+2,0⟩:ez),⟨5,0,0⟩]).length:Int)+2) yy.2.2[j])/\(yy.1<=j->j < code.length->vU u m yy.2.2[j]))) (λyy=>code.length-yy.1)
   (λyy=>([.v (.pointer (some ⟨bb,0,none⟩)),.l 4 0,.l 5 0,.l 6 0,.v (.slice pX (code++[(⟨11,(code.length:Int)+2,0⟩:ez),⟨5,0,0⟩]).length kX),.v (.slice pe el.length ke),.v (.int .i64 code.length),.v (.int .i64 ((code.length:Int)+2)),.v (.int .i64 yy.1)],
    [some [.slice cp u.J.length cc,.slice q u.methods.length d],some [.int .i64 m.cls,.int .i64 m.fG,.slice ap m.args.length ac,.int .i64 m.out,.int .i64 m.locals,.slice none 0 0,.slice none 0 0,(.slice (some ⟨bk,0,none⟩) 1 1)],some [.int .i64 0,.int .i64 0,.slice none 0 0,.int .i64 0,.int .i64 0,.slice none 0 0,.slice none 0 0,.slice none 0 0]],dz yy.2.1 bb vb (q2+1)))
   (0,g3,code++[(⟨11,(code.length:Int)+2,0⟩:ez),⟨5,0,0⟩]) ⟨Nat.zero_le _,hF,r3,rfl,hX⟩ rfl ?_
  rintro⟨i,g4,c4⟩ ⟨hi,hF,r4,n4,h4⟩;simp only at hi hF r4 n4 h4 ⊢;conv=>whnf
  apply ax<;>intro gi;all_goals conv=>whnf
  ·have bV:i < c4.length:=by omega
   have BY:=(h4 i bV).2 (Nat.le_refl _) (by omega);have hbd:=Ig BY ok hn (by omega);have f:=hF.at bV;obtain⟨b4,G0,e4,pre,post,t4,CE,lF,put⟩:=f;have ne4:b4≠bb:=λe=>by have:=r4.free;rw[<-e,CE]at this;cases this
   have PK:fj (dz g4 bb vb (q2+1)) b4 (0+i*3) 3=some (dV c4[i]):=bK (aY r4.free) e4;have ja:rd (dz g4 bb vb (q2+1)) b4 (0+i*3+1)=some (.int .i64 c4[i].a):=aE PK (i:=1) rfl;have nY:∀ y,Good u m (((code++[(⟨11,(code.length:Int)+2,0⟩:ez),⟨5,0,0⟩]).length:Int)+2) y->∀ j (h:j < (c4.set i y).length),(j < i+1\/code.length<=j->Good u m (((code++[(⟨11,(code.length:Int)+2,0⟩:ez),⟨5,0,0⟩]).length:Int)+2) (c4.set i y)[j])/\(i+1<=j->j < code.length->vU u m (c4.set i y)[j]):=λy hy j hj=>by
    rw[List.length_set]at hj;by_cases e:i=j
    ·subst e;refine⟨λ_=>by simpa using hy,λh=>by omega⟩
    ·rw[List.getElem_set_ne e];exact⟨λh=>(h4 j hj).1 (by omega),λh1 h2=>(h4 j hj).2 (by omega) h2⟩
   have eB:Good u m (((code++[(⟨11,(code.length:Int)+2,0⟩:ez),⟨5,0,0⟩]).length:Int)+2) c4[i]->∀ j (h:j < c4.length),(j < i+1\/code.length<=j->Good u m (((code++[(⟨11,(code.length:Int)+2,0⟩:ez),⟨5,0,0⟩]).length:Int)+2) c4[j])/\(i+1<=j->j < code.length->vU u m c4[j]):=λhy j hj=>by
    by_cases e:i=j
    ·subst e;exact⟨λ_=>hy,λh=>by omega⟩
    ·exact⟨λh=>(h4 j hj).1 (by omega),λh1 h2=>(h4 j hj).2 (by omega) h2⟩
   generalize NF:c4[i]=xi at BY hbd e4 PK ja eB CE;obtain⟨xk,xa,xb⟩:=xi;unfold dV at e4 PK;refine aq ?_;conv=>whnf
   refine aG G0 ?_;conv=>whnf
   refine dJ PK ?_;conv=>whnf
   refine Ts r4 (kO xk xa xb g4) ?_;conv=>whnf
   cases hj:eA ⟨xk,xa,xb⟩
   ·conv=>whnf
    refine ah ?_;conv=>whnf
    unfold eA at hj;have hj:=of_decide_eq_false hj;refine dm (i+1,g4,c4) ⟨by simp only;omega,hF,r4,n4,eB ?_⟩ (by simp only;omega) rfl;rcases BY with ⟨h1,_⟩|⟨h1,_⟩
    ·exact .inl ⟨h1,hj⟩
    ·exact absurd h1 (by simp only at hj ⊢;omega)
   ·unfold eA at hj;have hj:=of_decide_eq_true hj;have Ux : -3<=xa/\xa<=-1/\xb=0:=by
     rcases BY with ⟨_,h1,_⟩|⟨_,h1,h2⟩
     ·exact absurd hj h1
     ·simp only at h1 h2;omega
    conv=>whnf
    refine aq ?_;conv=>whnf
    refine aG G0 ?_;conv=>whnf
    refine ld ja ?_;conv=>whnf
    refine gI (by simp only;omega) ?_;conv=>whnf
    refine aq ?_;conv=>whnf
    refine aG G0 ?_;conv=>whnf
    refine ld ja ?_;conv=>whnf
    have fin:∀(to:Int),0<=to/\to < ((code++[(⟨11,(code.length:Int)+2,0⟩:ez),⟨5,0,0⟩]).length:Int)+2->lX g (g4.set b4 (.cells (pre++dV ⟨xk,to,xb⟩++post).toArray t4 (0,0))) (c4.set i ⟨xk,to,xb⟩) pX kX BX el pe ke Be ([⟨kf,code.length,(code.length:Int)+1,1⟩]:List nK) (.slice (some ⟨bk,0,none⟩) 1 1) [bk]/\bC (g4.set b4 (.cells (pre++dV ⟨xk,to,xb⟩++post).toArray t4 (0,0))) bb vb (q2+1)/\(∀ j (h:j < (c4.set i ⟨xk,to,xb⟩).length),(j < i+1\/code.length<=j->Good u m (((code++[(⟨11,(code.length:Int)+2,0⟩:ez),⟨5,0,0⟩]).length:Int)+2) (c4.set i ⟨xk,to,xb⟩)[j])/\(i+1<=j->j < code.length->vU u m (c4.set i ⟨xk,to,xb⟩)[j])):=λto ht=>by
     have hF':=put ⟨xk,to,xb⟩ _ rfl;exact⟨hF',r.to hF'.le (by simp[Heap.set,r4.free];intro e;exact absurd e.symm ne4) (by omega),nY _ (.inr ⟨hj,ht,Ux.2.2⟩)⟩
    have wr:∀ to:Int,eS (pre++dV ⟨xk,xa,xb⟩++post) (0+i*3+1) [.int .i64 to]=pre++dV ⟨xk,to,xb⟩++post:=λto=>by
     rw[jZ (i:=1) (by omega) (by simp[dV])];rfl
    apply ax<;>intro g5;all_goals conv=>whnf
    ·apply ax<;>intro g6;all_goals conv=>whnf
     ·have he:=Ij (a:=(0-xa)*5+i) (n:=el.length) (by omega) (by omega);have mB:(((0-xa)*5+(i:Int)).tmod el.length).toNat < el.length:=by omega
      have f:=xP hF.oe mB;obtain⟨be,hpe,hle⟩:=f;have Fm:=el0 _ (x_ mB);have Di:∃ to,el[(((0-xa)*5+(i:Int)).tmod el.length).toNat]=to:=⟨_,rfl⟩
      obtain⟨to,Di⟩:=Di;rw[Di]at Fm hle;have FJ:rd (dz g4 bb vb (q2+1)) be (0+(((0-xa)*5+(i:Int)).tmod el.length).toNat*1)=some (.int .i64 to):=aX (aY r4.free) hle;refine aq ?_;conv=>whnf
      refine aG G0 ?_;conv=>whnf
      refine ld ja ?_;conv=>whnf
      refine ah ?_;conv=>whnf
      refine ah ?_;conv=>whnf
      refine ah ?_;conv=>whnf
      refine aq ?_;conv=>whnf
      refine ob he ?_;conv=>whnf
      refine aG hpe ?_;conv=>whnf
      refine ld FJ ?_;conv=>whnf
      refine aq ?_;conv=>whnf
      refine aG G0 ?_;conv=>whnf
      refine jS r4.free CE (by simp[dV];omega) (wr (to)) ?_;conv=>whnf
      refine ah ?_;conv=>whnf
      have ff:=fin (to) ⟨by omega,by omega⟩;exact dm (i+1,_,c4.set i ⟨xk,to,xb⟩) ⟨by simp only;omega,ff.1,ff.2.1,by simp only[List.length_set];exact n4,ff.2.2⟩ (by simp only;omega) rfl
     ·have zT:=MQ;refine aq ?_;conv=>whnf
      refine aG G0 ?_;conv=>whnf
      refine jS r4.free CE (by simp[dV];omega) (wr ((code.length:Int)+2)) ?_;conv=>whnf
      refine ah ?_;conv=>whnf
      have ff:=fin ((code.length:Int)+2) zT;exact dm (i+1,_,c4.set i ⟨xk,(code.length:Int)+2,xb⟩) ⟨by simp only;omega,ff.1,ff.2.1,by simp only[List.length_set];exact n4,ff.2.2⟩ (by simp only;omega) rfl
    ·have zT:=MQ;refine aq ?_;conv=>whnf
     refine aG G0 ?_;conv=>whnf
     refine jS r4.free CE (by simp[dV];omega) (wr ((code.length:Int)+2)) ?_;conv=>whnf
     refine ah ?_;conv=>whnf
     have ff:=fin ((code.length:Int)+2) zT;exact dm (i+1,_,c4.set i ⟨xk,(code.length:Int)+2,xb⟩) ⟨by simp only;omega,ff.1,ff.2.1,by simp only[List.length_set];exact n4,ff.2.2⟩ (by simp only;omega) rfl
  ·have oW:∀ x∈c4,Good u m (((code++[(⟨11,(code.length:Int)+2,0⟩:ez),⟨5,0,0⟩]).length:Int)+2) x:=λx hx=>by
    obtain⟨j,hj,rfl⟩:=List.mem_iff_getElem.1 hx;exact(h4 j hj).1 (by omega)
   have MR:∀ x∈(([⟨kf,code.length,(code.length:Int)+1,1⟩]:List nK):List nK),(0<=x.lo/\x.lo < x.hi/\x.hi<=100/\0<=x.to/\x.to < 100)/\x.cls=1:=λx hx=>by
    have:=UB x hx;omega
   have hm4:=qA hF h0 hH E3 ha (jF _) MR;refine gY r4 (zL _ _ r4 (by omega) (hm4.le (aM _ _))) (λv g5 q5 l5 r5 q50 q51 hA=>?_);obtain⟨b5,x,y,rfl,mz,e5,KK⟩:=hA;have hF5:=hF.aJ l5;have N2:eU u {m with code:=c4++[x,y],aQ:=[],catches:=([⟨kf,code.length,(code.length:Int)+1,1⟩]:List nK)} x/\eU u {m with code:=c4++[x,y],aQ:=[],catches:=([⟨kf,code.length,(code.length:Int)+1,1⟩]:List nK)} y:=by
    have h2:=ok.1;rcases KK with ⟨rfl,rfl⟩|⟨rfl,rfl|⟨w,rfl,w0,w1⟩⟩
    ·exact⟨(aI (p:=5) (q:=0) rfl).2 ⟨by unfold bz;simp;omega,rfl⟩,(aI (p:=0) (q:=0) rfl).2 ⟨rfl,rfl⟩⟩
    ·exact⟨(aI (p:=0) (q:=0) rfl).2 ⟨rfl,rfl⟩,(aI (p:=0) (q:=0) rfl).2 ⟨rfl,rfl⟩⟩
    ·exact⟨(aI (p:=1) (q:=0) rfl).2 ⟨by unfold bz;simp[fJ];omega,rfl⟩,(aI (p:=0) (q:=0) rfl).2 ⟨rfl,rfl⟩⟩
   have ldr:fj (dz g5 bb vb q5) b5 0 (2*3)=some (dV x++dV y):=by
    refine bK (aY r5.free) ?_;rw[bO e5 _ _ (by simp[dV])];rfl
   conv=>whnf
   refine Ii ldr ?_;conv=>whnf
   refine hF5.app r r5 [x,y] (by omega) rfl rfl rfl (by omega) (by simp) rfl (Nat.le_of_ble_eq_true rfl) (λp6 k6 g6 B6 Jz r6=>?_);have f6:=BE Jz (by simp);obtain⟨bc6,rfl,TC⟩:=f6;conv=>whnf
   have Dk:∀ z∈c4++[x,y],eU u {m with code:=c4++[x,y],aQ:=[],catches:=([⟨kf,code.length,(code.length:Int)+1,1⟩]:List nK)} z:=λz hz=>by
    simp only[u_,List.mem_cons,List.not_mem_nil,or_false]at hz;rcases hz with hz|rfl|rfl
    ·exact(oW z hz).ins rfl (by simp[n4])
    ·exact N2.1
    ·exact N2.2
   have NY:=y_ h0 Jz.le;have l6:(since g0 g).le (since g0 g6):=cF g0 Jz.le;have oT:=E2 Jz h0 (by simp;omega) (λz hz=>vW (Dk z hz) ok hn (by simp only;omega) (by simp;omega));have TE:=qA Jz h0 hH E3 ha oT MR;have hM:Td u {m with code:=c4++[x,y],aQ:=[],catches:=([⟨kf,code.length,(code.length:Int)+1,1⟩]:List nK)}:=⟨hH,by simp;omega,Dk,by
    refine⟨by simp,λz hz=>?_⟩;have RJ:=UB z hz;have hc:=ok.1;have hlc:(c4++[x,y]).length=c4.length+2:=by simp
    exact⟨by simp only[hlc];omega,by simp only[hlc];omega,by omega,by rw[RJ.2];exact uW ok (by omega) (by omega)⟩⟩
   refine PC r6 NY (sq _ u {m with code:=c4++[x,y],aQ:=[],catches:=([⟨kf,code.length,(code.length:Int)+1,1⟩]:List nK)} (since g0 g6) ap (some ⟨bc6,0,none⟩) none (some ⟨bk,0,none⟩) m.args.length _ 0 1 ac k6 0 1 (iw.le l6) TE hV hM) (λv g7 l7 r7 hr=>?_);obtain⟨b7,c7,A,rfl,aA,nA,vA⟩:=hr;conv=>whnf
   obtain⟨a8,c8,s8,k8,Mo,w1,w2,w3,w4,w5,w6,_,w8⟩:=TE;simp only[List.cons.injEq,and_true,true_and]at Mo;obtain⟨rfl,rfl,rfl,rfl⟩:=Mo;have ls:=cF g0 l7;have nA':A.length=c4.length+2:=by rw[nA];simp
   refine⟨_,_,rfl,y_ Jz.le l7,r7.free,by omega,by omega,_,{m with code:=c4++[x,y],aQ:=A,catches:=([⟨kf,code.length,(code.length:Int)+1,1⟩]:List nK)},rfl,⟨rfl,rfl,rfl,rfl,rfl⟩,⟨_,_,_,_,rfl,w1,w2,w3,w4,w5.le ls,w6.le ls (λ_ _ hx=>hx),aA.zD (by omega),w8.le ls (λ_ _ hx=>hx)⟩,⟨⟨hM.head,hM.len,hM.code,hM.cat⟩,nA,vA⟩,⟨_,_,_,_,_,rfl,⟨qz TC,br l6 aA.fr⟩,.inr ⟨_,rfl,rfl⟩⟩⟩
 have hX:∀ j (h:j < code.length),(j < 0\/code.length<=j->Good u m ((code.length:Int)+2) code[j])/\(0<=j->j < code.length->vU u m code[j]):=λj hj=>⟨λh=>by omega,λ_ h=>hB.ins _ (x_ h)⟩
 all_goals
  have ade:(code).length<=10:=(by first|omega|(simp only[U_,List.length_cons,List.length_nil];omega))
  have adf:code.length<=(code).length:=(by first|omega|(simp only[U_,List.length_cons,List.length_nil];omega))
  have MQ:0<=((code.length:Int):Int)/\((code.length:Int):Int) < ((code).length:Int)+2:=(by first|omega|(simp only[U_,List.length_cons,List.length_nil];omega))
  have el0:=hB.emp;have UB:∀ x∈(([]:List nK):List nK),(0<=x.lo/\x.lo < x.hi/\x.hi<=((code).length:Int)/\0<=x.to/\x.to < ((code).length:Int))/\x.cls=1:=λx hx=>by
   cases hx
  refine fh [0,4,5,6,9,10,11,12,13] [4,5,6] (λyy:Nat × Heap × List ez=>yy.1<=code.length/\lX g yy.2.1 yy.2.2 pc kc Bc el pe ke Be ([]:List nK) (.slice none 0 0) []/\bC yy.2.1 bb vb q2/\yy.2.2.length=(code).length/\(∀ j (h:j < yy.2.2.length),(j < yy.1\/code.length<=j->Good u m (((code).length:Int)+2) yy.2.2[j])/\(yy.1<=j->j < code.length->vU u m yy.2.2[j]))) (λyy=>code.length-yy.1)
   (λyy=>([.v (.pointer (some ⟨bb,0,none⟩)),.l 4 0,.l 5 0,.l 6 0,.v (.slice pc (code).length kc),.v (.slice pe el.length ke),.v (.int .i64 code.length),.v (.int .i64 ((code.length:Int))),.v (.int .i64 yy.1)],
    [some [.slice cp u.J.length cc,.slice q u.methods.length d],some [.int .i64 m.cls,.int .i64 m.fG,.slice ap m.args.length ac,.int .i64 m.out,.int .i64 m.locals,.slice none 0 0,.slice none 0 0,(.slice none 0 0)],some [.int .i64 0,.int .i64 0,.slice none 0 0,.int .i64 0,.int .i64 0,.slice none 0 0,.slice none 0 0,.slice none 0 0]],dz yy.2.1 bb vb q2))
   (0,g2,code) ⟨Nat.zero_le _,hF0,r2,rfl,hX⟩ rfl ?_
  rintro⟨i,g4,c4⟩ ⟨hi,hF,r4,n4,h4⟩;simp only at hi hF r4 n4 h4 ⊢;conv=>whnf
  apply ax<;>intro gi;all_goals conv=>whnf
  ·have bV:i < c4.length:=by omega
   have BY:=(h4 i bV).2 (Nat.le_refl _) (by omega);have hbd:=Ig BY ok hn (by omega);have f:=hF.at bV;obtain⟨b4,G0,e4,pre,post,t4,CE,lF,put⟩:=f;have ne4:b4≠bb:=λe=>by have:=r4.free;rw[<-e,CE]at this;cases this
   have PK:fj (dz g4 bb vb q2) b4 (0+i*3) 3=some (dV c4[i]):=bK (aY r4.free) e4;have ja:rd (dz g4 bb vb q2) b4 (0+i*3+1)=some (.int .i64 c4[i].a):=aE PK (i:=1) rfl;have nY:∀ y,Good u m (((code).length:Int)+2) y->∀ j (h:j < (c4.set i y).length),(j < i+1\/code.length<=j->Good u m (((code).length:Int)+2) (c4.set i y)[j])/\(i+1<=j->j < code.length->vU u m (c4.set i y)[j]):=λy hy j hj=>by
    rw[List.length_set]at hj;by_cases e:i=j
    ·subst e;refine⟨λ_=>by simpa using hy,λh=>by omega⟩
    ·rw[List.getElem_set_ne e];exact⟨λh=>(h4 j hj).1 (by omega),λh1 h2=>(h4 j hj).2 (by omega) h2⟩
   have eB:Good u m (((code).length:Int)+2) c4[i]->∀ j (h:j < c4.length),(j < i+1\/code.length<=j->Good u m (((code).length:Int)+2) c4[j])/\(i+1<=j->j < code.length->vU u m c4[j]):=λhy j hj=>by
    by_cases e:i=j
    ·subst e;exact⟨λ_=>hy,λh=>by omega⟩
    ·exact⟨λh=>(h4 j hj).1 (by omega),λh1 h2=>(h4 j hj).2 (by omega) h2⟩
   generalize NF:c4[i]=xi at BY hbd e4 PK ja eB CE;obtain⟨xk,xa,xb⟩:=xi;unfold dV at e4 PK;refine aq ?_;conv=>whnf
   refine aG G0 ?_;conv=>whnf
   refine dJ PK ?_;conv=>whnf
   refine Ts r4 (kO xk xa xb g4) ?_;conv=>whnf
   cases hj:eA ⟨xk,xa,xb⟩
   ·conv=>whnf
    refine ah ?_;conv=>whnf
    unfold eA at hj;have hj:=of_decide_eq_false hj;refine dm (i+1,g4,c4) ⟨by simp only;omega,hF,r4,n4,eB ?_⟩ (by simp only;omega) rfl;rcases BY with ⟨h1,_⟩|⟨h1,_⟩
    ·exact .inl ⟨h1,hj⟩
    ·exact absurd h1 (by simp only at hj ⊢;omega)
   ·unfold eA at hj;have hj:=of_decide_eq_true hj;have Ux : -3<=xa/\xa<=-1/\xb=0:=by
     rcases BY with ⟨_,h1,_⟩|⟨_,h1,h2⟩
     ·exact absurd hj h1
     ·simp only at h1 h2;omega
    conv=>whnf
    refine aq ?_;conv=>whnf
    refine aG G0 ?_;conv=>whnf
    refine ld ja ?_;conv=>whnf
    refine gI (by simp only;omega) ?_;conv=>whnf
    refine aq ?_;conv=>whnf
    refine aG G0 ?_;conv=>whnf
    refine ld ja ?_;conv=>whnf
    have fin:∀(to:Int),0<=to/\to < ((code).length:Int)+2->lX g (g4.set b4 (.cells (pre++dV ⟨xk,to,xb⟩++post).toArray t4 (0,0))) (c4.set i ⟨xk,to,xb⟩) pc kc Bc el pe ke Be ([]:List nK) (.slice none 0 0) []/\bC (g4.set b4 (.cells (pre++dV ⟨xk,to,xb⟩++post).toArray t4 (0,0))) bb vb q2/\(∀ j (h:j < (c4.set i ⟨xk,to,xb⟩).length),(j < i+1\/code.length<=j->Good u m (((code).length:Int)+2) (c4.set i ⟨xk,to,xb⟩)[j])/\(i+1<=j->j < code.length->vU u m (c4.set i ⟨xk,to,xb⟩)[j])):=λto ht=>by
     have hF':=put ⟨xk,to,xb⟩ _ rfl;exact⟨hF',r.to hF'.le (by simp[Heap.set,r4.free];intro e;exact absurd e.symm ne4) (by omega),nY _ (.inr ⟨hj,ht,Ux.2.2⟩)⟩
    have wr:∀ to:Int,eS (pre++dV ⟨xk,xa,xb⟩++post) (0+i*3+1) [.int .i64 to]=pre++dV ⟨xk,to,xb⟩++post:=λto=>by
     rw[jZ (i:=1) (by omega) (by simp[dV])];rfl
    apply ax<;>intro g5;all_goals conv=>whnf
    ·apply ax<;>intro g6;all_goals conv=>whnf
     ·have he:=Ij (a:=(0-xa)*5+i) (n:=el.length) (by omega) (by omega);have mB:(((0-xa)*5+(i:Int)).tmod el.length).toNat < el.length:=by omega
      have f:=xP hF.oe mB;obtain⟨be,hpe,hle⟩:=f;have Fm:=el0 _ (x_ mB);have Di:∃ to,el[(((0-xa)*5+(i:Int)).tmod el.length).toNat]=to:=⟨_,rfl⟩
      obtain⟨to,Di⟩:=Di;rw[Di]at Fm hle;have FJ:rd (dz g4 bb vb q2) be (0+(((0-xa)*5+(i:Int)).tmod el.length).toNat*1)=some (.int .i64 to):=aX (aY r4.free) hle;refine aq ?_;conv=>whnf
      refine aG G0 ?_;conv=>whnf
      refine ld ja ?_;conv=>whnf
      refine ah ?_;conv=>whnf
      refine ah ?_;conv=>whnf
      refine ah ?_;conv=>whnf
      refine aq ?_;conv=>whnf
      refine ob he ?_;conv=>whnf
      refine aG hpe ?_;conv=>whnf
      refine ld FJ ?_;conv=>whnf
      refine aq ?_;conv=>whnf
      refine aG G0 ?_;conv=>whnf
      refine jS r4.free CE (by simp[dV];omega) (wr (to)) ?_;conv=>whnf
      refine ah ?_;conv=>whnf
      have ff:=fin (to) ⟨by omega,by omega⟩;exact dm (i+1,_,c4.set i ⟨xk,to,xb⟩) ⟨by simp only;omega,ff.1,ff.2.1,by simp only[List.length_set];exact n4,ff.2.2⟩ (by simp only;omega) rfl
     ·have zT:=MQ;refine aq ?_;conv=>whnf
      refine aG G0 ?_;conv=>whnf
      refine jS r4.free CE (by simp[dV];omega) (wr ((code.length:Int))) ?_;conv=>whnf
      refine ah ?_;conv=>whnf
      have ff:=fin ((code.length:Int)) zT;exact dm (i+1,_,c4.set i ⟨xk,(code.length:Int),xb⟩) ⟨by simp only;omega,ff.1,ff.2.1,by simp only[List.length_set];exact n4,ff.2.2⟩ (by simp only;omega) rfl
    ·have zT:=MQ;refine aq ?_;conv=>whnf
     refine aG G0 ?_;conv=>whnf
     refine jS r4.free CE (by simp[dV];omega) (wr ((code.length:Int))) ?_;conv=>whnf
     refine ah ?_;conv=>whnf
     have ff:=fin ((code.length:Int)) zT;exact dm (i+1,_,c4.set i ⟨xk,(code.length:Int),xb⟩) ⟨by simp only;omega,ff.1,ff.2.1,by simp only[List.length_set];exact n4,ff.2.2⟩ (by simp only;omega) rfl
  ·have oW:∀ x∈c4,Good u m (((code).length:Int)+2) x:=λx hx=>by
    obtain⟨j,hj,rfl⟩:=List.mem_iff_getElem.1 hx;exact(h4 j hj).1 (by omega)
   have MR:∀ x∈(([]:List nK):List nK),(0<=x.lo/\x.lo < x.hi/\x.hi<=100/\0<=x.to/\x.to < 100)/\x.cls=1:=λx hx=>by
    have:=UB x hx;omega
   have hm4:=qA hF h0 hH E3 ha (jF _) MR;refine gY r4 (zL _ _ r4 (by omega) (hm4.le (aM _ _))) (λv g5 q5 l5 r5 q50 q51 hA=>?_);obtain⟨b5,x,y,rfl,mz,e5,KK⟩:=hA;have hF5:=hF.aJ l5;have N2:eU u {m with code:=c4++[x,y],aQ:=[],catches:=([]:List nK)} x/\eU u {m with code:=c4++[x,y],aQ:=[],catches:=([]:List nK)} y:=by
    have h2:=ok.1;rcases KK with ⟨rfl,rfl⟩|⟨rfl,rfl|⟨w,rfl,w0,w1⟩⟩
    ·exact⟨(aI (p:=5) (q:=0) rfl).2 ⟨by unfold bz;simp;omega,rfl⟩,(aI (p:=0) (q:=0) rfl).2 ⟨rfl,rfl⟩⟩
    ·exact⟨(aI (p:=0) (q:=0) rfl).2 ⟨rfl,rfl⟩,(aI (p:=0) (q:=0) rfl).2 ⟨rfl,rfl⟩⟩
    ·exact⟨(aI (p:=1) (q:=0) rfl).2 ⟨by unfold bz;simp[fJ];omega,rfl⟩,(aI (p:=0) (q:=0) rfl).2 ⟨rfl,rfl⟩⟩
   have ldr:fj (dz g5 bb vb q5) b5 0 (2*3)=some (dV x++dV y):=by
    refine bK (aY r5.free) ?_;rw[bO e5 _ _ (by simp[dV])];rfl
   conv=>whnf
   refine Ii ldr ?_;conv=>whnf
   refine hF5.app r r5 [x,y] (by omega) rfl rfl rfl (by omega) (by simp) rfl (Nat.le_of_ble_eq_true rfl) (λp6 k6 g6 B6 Jz r6=>?_);have f6:=BE Jz (by simp);obtain⟨bc6,rfl,TC⟩:=f6;conv=>whnf
   have Dk:∀ z∈c4++[x,y],eU u {m with code:=c4++[x,y],aQ:=[],catches:=([]:List nK)} z:=λz hz=>by
    simp only[u_,List.mem_cons,List.not_mem_nil,or_false]at hz;rcases hz with hz|rfl|rfl
    ·exact(oW z hz).ins rfl (by simp[n4])
    ·exact N2.1
    ·exact N2.2
   have NY:=y_ h0 Jz.le;have l6:(since g0 g).le (since g0 g6):=cF g0 Jz.le;have oT:=E2 Jz h0 (by simp;omega) (λz hz=>vW (Dk z hz) ok hn (by simp only;omega) (by simp;omega));have TE:=qA Jz h0 hH E3 ha oT MR;have hM:Td u {m with code:=c4++[x,y],aQ:=[],catches:=([]:List nK)}:=⟨hH,by simp;omega,Dk,by
    refine⟨by simp,λz hz=>?_⟩;have RJ:=UB z hz;have hc:=ok.1;have hlc:(c4++[x,y]).length=c4.length+2:=by simp
    exact⟨by simp only[hlc];omega,by simp only[hlc];omega,by omega,by rw[RJ.2];exact uW ok (by omega) (by omega)⟩⟩
   refine PC r6 NY (sq _ u {m with code:=c4++[x,y],aQ:=[],catches:=([]:List nK)} (since g0 g6) ap (some ⟨bc6,0,none⟩) none none m.args.length _ 0 0 ac k6 0 0 (iw.le l6) TE hV hM) (λv g7 l7 r7 hr=>?_);obtain⟨b7,c7,A,rfl,aA,nA,vA⟩:=hr;conv=>whnf
   obtain⟨a8,c8,s8,k8,Mo,w1,w2,w3,w4,w5,w6,_,w8⟩:=TE;simp only[List.cons.injEq,and_true,true_and]at Mo;obtain⟨rfl,rfl,rfl,rfl⟩:=Mo;have ls:=cF g0 l7;have nA':A.length=c4.length+2:=by rw[nA];simp
   refine⟨_,_,rfl,y_ Jz.le l7,r7.free,by omega,by omega,_,{m with code:=c4++[x,y],aQ:=A,catches:=([]:List nK)},rfl,⟨rfl,rfl,rfl,rfl,rfl⟩,⟨_,_,_,_,rfl,w1,w2,w3,w4,w5.le ls,w6.le ls (λ_ _ hx=>hx),aA.zD (by omega),w8.le ls (λ_ _ hx=>hx)⟩,⟨⟨hM.head,hM.len,hM.code,hM.cat⟩,nA,vA⟩,⟨_,_,_,_,_,rfl,⟨qz TC,br l6 aA.fr⟩,.inl ⟨rfl,rfl⟩⟩⟩
end Go.Proofs
