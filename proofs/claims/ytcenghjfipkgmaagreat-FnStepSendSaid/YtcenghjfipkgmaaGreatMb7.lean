/- Lemmas. -/
import Derived.Test.YtcenghjfipkgmaaGreatMb6
set_option linter.unusedSimpArgs false
set_option linter.unusedVariables false
namespace Go.Proofs
open Go.Vc Go.Proofs.Tryz
set_option maxRecDepth 100000
set_option maxHeartbeats 4000000
def vF (r:ya) (said:List Int):Sk:=match r with
 | .ok (o,g)=>.ok (o,g,said,false)
 | .error e=>.error e
theorem EB {u:aO} {k a b:Int} {aR:List Vl} {objs:List Ob} {f:bQ} {said:List Int} (h:12<=k/\k<=19):gG u ⟨k,a,b⟩ aR objs f said=vF (bD u ⟨k,a,b⟩ aR objs f) said:=by
 unfold gG;simp only;repeat rw[if_neg (by omega)]
 rfl
theorem LW {M:bM} {fs:List bQ} {f:bQ} {x:Sx} {o:Ob} {a:Int} {cP:List Vl} (hx:x=aU M fs {f with stack:=cP}) :
  Rl (th M fs f (vF (dH (M.objs++[o]) {f with stack:=cP} ⟨true,M.objs.length+1⟩) M.said) a) (fY (jQ x o)).res:=by
 subst hx;have hm:jQ (aU M fs {f with stack:=cP}) o=dM {aU M fs {f with stack:=cP}with objs:=M.objs++[o]} ⟨true,M.objs.length+1⟩:=by
  unfold jQ;rw[if_neg (by simp[Sx.bad,aU])];rfl
 rw[hm];by_cases h:cP.length < 4
 ·rw[rH h];have:dH (M.objs++[o]) {f with stack:=cP} ⟨true,M.objs.length+1⟩=.ok (M.objs++[o],{f with stack:=cP++[⟨true,M.objs.length+1⟩]}):=if_pos h;rw[this];exact Rl.ok rfl
 ·rw[oU (by show 4<=cP.length;omega)];have:dH (M.objs++[o]) {f with stack:=cP} ⟨true,M.objs.length+1⟩=.error 0:=if_neg h;rw[this];exact Rl.stuck rfl
theorem LX {x:Sx} {o:Ob} (h:x.bad):jQ x o=x:=if_pos h
theorem zm {u:aO} {x:Sx} {k:Int} (hb:¬x.bad):bB u x 0 k=cQ x 2:=by unfold bB;rw[if_neg hb,if_pos rfl]
theorem zn {u:aO} {x:Sx} {n k:Int} (hb:¬x.bad) (hn:n≠0) (hc:fU u (aF x.objs n).cls k=true):bB u x n k = {x with st:=true}:=by unfold bB;rw[if_neg hb,if_neg hn,if_pos hc]
theorem wR {u:aO} {x:Sx} {n k:Int} (hb:¬x.bad) (hn:n≠0) (hc:fU u (aF x.objs n).cls k=false):bB u x n k=x:=by unfold bB;rw[if_neg hb,if_neg hn,if_neg (by rw[hc];simp)]
def Bp (u:aO) (x:Sx) (n w k:Int) (set:Bool) (v:Vl):Sx :=
 if (bB u x n (-1-k)).bad then bB u x n (-1-k)else if ¬(0<=w/\w < (aF (bB u x n (-1-k)).objs n).aW.length)then cQ (bB u x n (-1-k)) 3
 else if set=true then I5 (bB u x n (-1-k)) n w v else dM (bB u x n (-1-k)) ((aF (bB u x n (-1-k)).objs n).aW.getD w.toNat cU)
theorem ki {u:aO} {x:Sx} {n w k:Int} {set:Bool} {v:Vl} (h:x.st=true):(Bp u x n w k set v).st=true:=by
 have ht:=Bn u x n (-1-k) h;unfold Bp;rw[if_pos (.inl ht)];exact ht
theorem S0 (M:bM) (fs:List bQ) (f:bQ):¬(aU M fs f).bad:=by simp[Sx.bad,aU]
theorem HW {u:aO} {M:bM} {fs:List bQ} {f:bQ} {x:Sx} {k w a:Int} {v0 v:Vl} {cP:List Vl} {set:Bool} (hx:x=aU M fs {f with stack:=cP}) (hk:k=0\/k=1) (hn:0<=v0.n) :
  Rl (th M fs f (vF (match qi M.objs v0 k w with
   | .error e=>.error e
   | .ok o=>if set=true then .ok (ij M.objs v0.n (putAt o.aW w v),{f with stack:=cP})else dH M.objs {f with stack:=cP} (o.aW.getD w.toNat cU)) M.said) a) (fY (Bp u x v0.n w k set v)).res:=by
 subst hx;have hb:=S0 M fs {f with stack:=cP};unfold Bp;by_cases h0:v0.n=0
 ·rw[yY h0,h0,zm hb];have:(cQ (aU M fs {f with stack:=cP}) 2).bad:=.inr (by show(0:Int) < 2;decide);rw[if_pos this];exact Rl.LR (by decide) rfl rfl
 ·have h1:0 < v0.n:=by omega
  have dO:fU u (aF M.objs v0.n).cls (-1-k) = !decide ((aF M.objs v0.n).cls=qh k):=by
   unfold fU qh;rcases hk with rfl|rfl<;>simp
  by_cases hc:(aF M.objs v0.n).cls=qh k
  ·rw[wR hb h0 (by show fU u (aF M.objs v0.n).cls (-1-k)=false;rw[dO];simp[hc]),if_neg hb];by_cases hr:0<=w/\w < (aF M.objs v0.n).aW.length
   ·have Km:0<=w/\w < (aF (aU M fs {f with stack:=cP}).objs v0.n).aW.length:=hr;rw[Cw h1 hc hr,if_neg (λhx=>hx Km)];cases set with
    | true=>exact Rl.ok rfl
    | false =>
     have e:vF (dH M.objs {f with stack:=cP} ((aF M.objs v0.n).aW.getD w.toNat cU)) M.said=fA M.objs {f with stack:=cP} M.said ((aF M.objs v0.n).aW.getD w.toNat cU):=rfl;simp only[Bool.false_eq_true,if_false];rw[e];exact mE rfl
   ·have Km:¬(0<=w/\w < (aF (aU M fs {f with stack:=cP}).objs v0.n).aW.length):=hr;rw[uf h1 hc hr,if_pos Km];exact Rl.LR (by decide) rfl rfl
  ·rw[yX h1 hc,zn hb h0 (by show fU u (aF M.objs v0.n).cls (-1-k)=true;rw[dO];simp[hc]),if_pos (.inl rfl)];exact Rl.stuck rfl
def wS (u:aO) (x:Sx) (n k i:Int) (set:Bool) (v:Vl):Sx :=
 if (bB u x n k).bad then bB u x n k else if set=true then I5 (bB u x n k) n i v else dM (bB u x n k) ((aF (bB u x n k).objs n).aW.getD i.toNat cU)
theorem oX {u:aO} {x:Sx} {n i k:Int} {set:Bool} {v:Vl} (h:x.st=true):(wS u x n k i set v).st=true:=by
 have ht:=Bn u x n k h;unfold wS;rw[if_pos (.inl ht)];exact ht
theorem EC {u:aO} {M:bM} {fs:List bQ} {f:bQ} {x:Sx} {k i a:Int} {v0 v:Vl} {cP:List Vl} {set:Bool} (hx:x=aU M fs {f with stack:=cP}) (hk:0<=k) (hn:0<=v0.n) :
  Rl (th M fs f (vF (match eE M.objs v0.n (up u.J (aF M.objs v0.n).cls k)with
   | .error e=>.error e
   | .ok o=>if set=true then .ok (ij M.objs v0.n (putAt o.aW i v),{f with stack:=cP})else dH M.objs {f with stack:=cP} (o.aW.getD i.toNat cU)) M.said) a) (fY (wS u x v0.n k i set v)).res:=by
 subst hx;have hb:=S0 M fs {f with stack:=cP};unfold wS;by_cases h0:v0.n=0
 ·rw[gK h0,h0,zm hb];have:(cQ (aU M fs {f with stack:=cP}) 2).bad:=.inr (by show(0:Int) < 2;decide);rw[if_pos this];exact Rl.LR (by decide) rfl rfl
 ·have h1:0 < v0.n:=by omega
  have dO:fU u (aF M.objs v0.n).cls k = !up u.J (aF M.objs v0.n).cls k:=by
   unfold fU;cases hu:up u.J (aF M.objs v0.n).cls k with
   | true =>
    have:=lO hu;simp[show ¬k < 0 by omega,this]
   | false=>simp[hk]
  cases hu:up u.J (aF M.objs v0.n).cls k with
  | true =>
   rw[wR hb h0 (by show fU u (aF M.objs v0.n).cls k=false;rw[dO,hu];rfl),if_neg hb,gR h1 rfl];cases set with
   | true=>exact Rl.ok rfl
   | false =>
    have e:vF (dH M.objs {f with stack:=cP} ((aF M.objs v0.n).aW.getD i.toNat cU)) M.said=fA M.objs {f with stack:=cP} M.said ((aF M.objs v0.n).aW.getD i.toNat cU):=rfl;simp only[Bool.false_eq_true,if_false];rw[e];exact mE rfl
  | false =>
   rw[zn hb h0 (by show fU u (aF M.objs v0.n).cls k=true;rw[dO,hu];rfl),if_pos (.inl rfl),gJ h1 rfl];exact Rl.stuck rfl
theorem Jd (u:aO) (M:bM) (fs:List bQ) (f:bQ) (k a b:Int) (hk:12<=k/\k<=19) (hv:∀ v∈f.stack,kE M.objs.length v) (ha:k=13\/k=15\/k=16->a=0\/a=1) (hc:k=12\/k=17\/k=18\/k=19->0<=a) :
  Rl (match ee u ⟨k,a,b⟩ f.stack with
   | none=>.error 0
   | some (aR,rest)=>th M fs f (gG u ⟨k,a,b⟩ aR M.objs {f with stack:=rest} M.said) a) (rO u (aU M fs f) ⟨k,a,b⟩):=by
 simp only[EB hk];unfold rO;rw[LS hk];obtain⟨U,pc,locals,cP⟩:=f;simp only at hv ⊢;have DA:k=12\/k=13\/k=14\/k=15\/k=16\/k=17\/k=18\/k=19:=by omega
 rcases DA with rfl|rfl|rfl|rfl|rfl|rfl|rfl|rfl
 ·rw[EA rfl];exact LW (f:=⟨U,pc,locals,cP⟩) rfl
 ·
  have hl:∀ x:Sx,iO u x ⟨13,a,b⟩=ox x a:=λx=>rfl;rw[hl];have bad:∀ x:Sx,(aB x).2.st=true->(ox x a).st=true:=λx h=>by
   unfold ox;refine LQ _ _ ?_;split
   ·exact h
   ·exact sO _ _ h
  rcases jl cP with rfl|⟨l,v,rfl⟩
  ·rw[nC rfl];exact Rl.stuck (bad _ (lD (x:=aU M fs ⟨U,pc,locals,[]⟩) rfl))
  ·rw[rM rfl];cases hr:v.ref with
   | true =>
    rw[if_neg (by simp[jD,hr])];exact Rl.stuck (bad _ (gQ (x:=aU M fs ⟨U,pc,locals,l++[v]⟩) rfl hr))
   | false =>
    rw[if_pos (by simp[jD,hr])];have e1:aB (aU M fs ⟨U,pc,locals,l++[v]⟩)=(v.n,aU M fs ⟨U,pc,locals,l⟩):=jd (x:=aU M fs ⟨U,pc,locals,l++[v]⟩) rfl hr;have e2:ox (aU M fs ⟨U,pc,locals,l++[v]⟩) a=jQ (if 0<=v.n/\v.n<=6 then aU M fs ⟨U,pc,locals,l⟩else cQ (aU M fs ⟨U,pc,locals,l⟩) 4) (ni a v.n):=by
     unfold ox;rw[e1]
    rw[e2];have e3:bD u ⟨13,a,b⟩ [v] M.objs ⟨U,pc,locals,l⟩=if 0<=v.n/\v.n<=6 then sZ (qh a) (List.replicate v.n.toNat (if a=0 then 1 else 8)) M.objs ⟨U,pc,locals,l⟩else .error 4:=rfl
    show Rl (th M fs _ (vF (bD u ⟨13,a,b⟩ [v] M.objs ⟨U,pc,locals,l⟩) M.said) a) _;rw[e3];by_cases h6:0<=v.n/\v.n<=6
    ·rw[if_pos h6,if_pos h6];have e4:(⟨qh a,(List.replicate v.n.toNat (if a=0 then 1 else 8)).map nothing⟩:Ob)=ni a v.n:=by
      unfold ni qh;have hm:min v.n 6=v.n:=by omega
      rw[hm];rcases ha (by simp)with rfl|rfl
      ·simp[nothing]
      ·simp[nothing]
     unfold sZ;rw[e4];exact LW (f:=⟨U,pc,locals,l++[v]⟩) rfl
    ·rw[if_neg h6,if_neg h6,LX (.inr (by show(0:Int) < 4;decide))];exact Rl.LR (by decide) rfl rfl
 ·
  have hl:∀ x:Sx,iO u x ⟨14,a,b⟩=tJ x:=λx=>rfl;rw[hl];have bad:∀ x:Sx,(aD x).2.st=true->(tJ x).st=true:=λx h=>by
   unfold tJ;simp only;split
   ·rfl
   ·split
    ·exact sO _ _ h
    ·exact rJ _ _ h
  rcases jl cP with rfl|⟨l,v,rfl⟩
  ·rw[nC rfl];exact Rl.stuck (bad _ (nU (x:=aU M fs ⟨U,pc,locals,[]⟩) rfl))
  ·rw[rM rfl];have Gu:=hv v (by simp);cases hr:v.ref with
   | false =>
    rw[if_neg (by simp[jD,hr])];exact Rl.stuck (bad _ (nV (x:=aU M fs ⟨U,pc,locals,l++[v]⟩) rfl hr))
   | true =>
    rw[if_pos (by simp[jD,hr])];have hn:=Gu.1 hr;have e1:aD (aU M fs ⟨U,pc,locals,l++[v]⟩)=(v.n,aU M fs ⟨U,pc,locals,l⟩):=rL (x:=aU M fs ⟨U,pc,locals,l++[v]⟩) rfl hr;have e2:tJ (aU M fs ⟨U,pc,locals,l++[v]⟩)=if 0 < v.n/\(aU M fs ⟨U,pc,locals,l⟩).st=false/\0<=(aF M.objs v.n).cls then {aU M fs ⟨U,pc,locals,l⟩with st:=true}else if v.n=0 then cQ (aU M fs ⟨U,pc,locals,l⟩) 2 else dM (aU M fs ⟨U,pc,locals,l⟩) ⟨false,(aF M.objs v.n).aW.length⟩:=by
     unfold tJ;simp only[e1];rfl
    rw[e2];show Rl (th M fs _ (vF (match eE M.objs v.n (decide ((aF M.objs v.n).cls < 0))with
     | .error e=>.error e
     | .ok o=>dH M.objs ⟨U,pc,locals,l⟩ ⟨false,o.aW.length⟩) M.said) a) _
    by_cases h0:v.n=0
    ·rw[gK h0,if_neg (by omega),if_pos h0];exact Rl.LR (by decide) rfl rfl
    ·have h1:0 < v.n:=by omega
     by_cases lI:(aF M.objs v.n).cls < 0
     ·rw[gR h1 (by simp[lI]),if_neg (by omega),if_neg h0];exact mE (f:=⟨U,pc,locals,l++[v]⟩) rfl
     ·rw[gJ h1 (by simp[lI]),if_pos ⟨h1,rfl,by omega⟩];exact Rl.stuck rfl
 ·
  have hl:∀ x:Sx,iO u x ⟨15,a,b⟩=Bp u (aD (aB x).2).2 (aD (aB x).2).1 (aB x).1 a false cU:=λx=>rfl;rw[hl];rcases jl cP with rfl|⟨l1,v1,rfl⟩
  ·rw[rN rfl (by simp)];exact Rl.stuck (ki (nT _ (lD (x:=aU M fs ⟨U,pc,locals,[]⟩) rfl)))
  ·rcases jl l1 with rfl|⟨l,v0,rfl⟩
   ·rw[rN rfl (by simp)];refine Rl.stuck (ki ?_);cases hr:v1.ref with
    | true=>exact nT _ (gQ (x:=aU M fs ⟨U,pc,locals,[]++[v1]⟩) rfl hr)
    | false=>rw[jd (x:=aU M fs ⟨U,pc,locals,[]++[v1]⟩) rfl hr];exact nU rfl
   ·rw[List.append_assoc];have LV:l++([v0]++[v1])=l++[v0,v1]:=rfl;rw[LV,HV rfl];have eB:(aU M fs ⟨U,pc,locals,l++[v0,v1]⟩).f.stack=(l++[v0])++[v1]:=by simp[aU]
    have Gu:=hv v0 (by simp);cases ur:v1.ref with
    | true =>
     rw[if_neg (by simp[jD,ur])];exact Rl.stuck (ki (nT _ (gQ eB ur)))
    | false =>
     have e1:=jd eB ur;cases ig:v0.ref with
     | false =>
      rw[if_neg (by simp[jD,ig])];refine Rl.stuck (ki ?_);rw[e1];exact nV (l:=l) (v:=v0) rfl ig
     | true =>
      rw[if_pos (by simp[jD,ig,ur])];have e2:aD (aB (aU M fs ⟨U,pc,locals,l++[v0,v1]⟩)).2=(v0.n,aU M fs ⟨U,pc,locals,l⟩):=by
       rw[e1];exact rL (l:=l) (v:=v0) rfl ig
      rw[e2,e1];exact HW (f:=⟨U,pc,locals,l++[v0,v1]⟩) (set:=false) (v:=cU) rfl (ha (by simp)) (Gu.1 ig).1
 ·
  have hl:∀ x:Sx,iO u x ⟨16,a,b⟩=Bp u (aD (aB (aZ x).2).2).2 (aD (aB (aZ x).2).2).1 (aB (aZ x).2).1 a true (aZ x).1:=λx=>rfl;rw[hl];rcases jl cP with rfl|⟨l2,v2,rfl⟩
  ·rw[Gy rfl (by simp)];exact Rl.stuck (ki (nT _ (nB _ (rK (x:=aU M fs ⟨U,pc,locals,[]⟩) rfl))))
  ·have e0:aZ (aU M fs ⟨U,pc,locals,l2++[v2]⟩)=(v2,aU M fs ⟨U,pc,locals,l2⟩):=gA (x:=aU M fs ⟨U,pc,locals,l2++[v2]⟩) rfl;rw[e0];rcases jl l2 with rfl|⟨l1,v1,rfl⟩
   ·rw[Gy rfl (by simp)];exact Rl.stuck (ki (nT _ (lD (x:=aU M fs ⟨U,pc,locals,[]⟩) rfl)))
   ·rcases jl l1 with rfl|⟨l,v0,rfl⟩
    ·rw[Gy rfl (by simp)];refine Rl.stuck (ki ?_);cases hr:v1.ref with
     | true=>exact nT _ (gQ (x:=aU M fs ⟨U,pc,locals,[]++[v1]⟩) rfl hr)
     | false=>rw[jd (x:=aU M fs ⟨U,pc,locals,[]++[v1]⟩) rfl hr];exact nU rfl
    ·have LV:l++[v0]++[v1]++[v2]=l++[v0,v1,v2]:=by simp
     have Gu:=hv v0 (by simp);rw[LV,ZI rfl];have eB:(aU M fs ⟨U,pc,locals,l++[v0]++[v1]⟩).f.stack=(l++[v0])++[v1]:=rfl;cases ur:v1.ref with
     | true =>
      rw[if_neg (by simp[jD,ur])];exact Rl.stuck (ki (nT _ (gQ eB ur)))
     | false =>
      have e1:=jd eB ur;cases ig:v0.ref with
      | false =>
       rw[if_neg (by simp[jD,ig])];refine Rl.stuck (ki ?_);rw[e1];exact nV (l:=l) (v:=v0) rfl ig
      | true =>
       rw[if_pos (by simp[jD,ig,ur])];have e2:aD (aB (aU M fs ⟨U,pc,locals,l++[v0]++[v1]⟩)).2=(v0.n,aU M fs ⟨U,pc,locals,l⟩):=by
        rw[e1];exact rL (l:=l) (v:=v0) rfl ig
       rw[e2,e1];exact HW (f:=⟨U,pc,locals,l++[v0,v1,v2]⟩) (set:=true) (v:=v2) rfl (ha (by simp)) (Gu.1 ig).1
 ·
  have hl:∀ x:Sx,iO u x ⟨17,a,b⟩=wS u (aD x).2 (aD x).1 a b false cU:=λx=>rfl;rw[hl];rcases jl cP with rfl|⟨l,v,rfl⟩
  ·rw[nC rfl];exact Rl.stuck (oX (nU (x:=aU M fs ⟨U,pc,locals,[]⟩) rfl))
  ·rw[rM rfl];have Gu:=hv v (by simp);cases hr:v.ref with
   | false =>
    rw[if_neg (by simp[jD,hr])];exact Rl.stuck (oX (nV (x:=aU M fs ⟨U,pc,locals,l++[v]⟩) rfl hr))
   | true =>
    rw[if_pos (by simp[jD,hr]),rL (x:=aU M fs ⟨U,pc,locals,l++[v]⟩) rfl hr];exact EC (f:=⟨U,pc,locals,l++[v]⟩) (set:=false) (v:=cU) rfl (hc (by simp)) (Gu.1 hr).1
 ·
  have hl:∀ x:Sx,iO u x ⟨18,a,b⟩=wS u (aD (aZ x).2).2 (aD (aZ x).2).1 a b true (aZ x).1:=λx=>rfl;rw[hl];rcases jl cP with rfl|⟨l1,v1,rfl⟩
  ·rw[rN rfl (by simp)];exact Rl.stuck (oX (nT _ (rK (x:=aU M fs ⟨U,pc,locals,[]⟩) rfl)))
  ·have e0:aZ (aU M fs ⟨U,pc,locals,l1++[v1]⟩)=(v1,aU M fs ⟨U,pc,locals,l1⟩):=gA (x:=aU M fs ⟨U,pc,locals,l1++[v1]⟩) rfl;rw[e0];rcases jl l1 with rfl|⟨l,v0,rfl⟩
   ·rw[rN rfl (by simp)];exact Rl.stuck (oX (nU (x:=aU M fs ⟨U,pc,locals,[]⟩) rfl))
   ·have LV:l++[v0]++[v1]=l++[v0,v1]:=by simp
    have Gu:=hv v0 (by simp);rw[LV,HV rfl];cases hr:v0.ref with
    | false =>
     rw[if_neg (by simp[jD,hr])];exact Rl.stuck (oX (nV (x:=aU M fs ⟨U,pc,locals,l++[v0]⟩) rfl hr))
    | true =>
     rw[if_pos (by simp[jD,hr]),rL (x:=aU M fs ⟨U,pc,locals,l++[v0]⟩) rfl hr];exact EC (f:=⟨U,pc,locals,l++[v0,v1]⟩) (set:=true) (v:=v1) rfl (hc (by simp)) (Gu.1 hr).1
 ·
  have hl:∀ x:Sx,iO u x ⟨19,a,b⟩=tK u x a:=λx=>rfl;rw[hl];have bad:∀ x:Sx,(aD x).2.st=true->(tK u x a).st=true:=λx h=>by
   unfold tK;simp only;rw[if_pos h];exact h
  rcases jl cP with rfl|⟨l,v,rfl⟩
  ·rw[nC rfl];exact Rl.stuck (bad _ (nU (x:=aU M fs ⟨U,pc,locals,[]⟩) rfl))
  ·rw[rM rfl];cases hr:v.ref with
   | false =>
    rw[if_neg (by simp[jD,hr])];exact Rl.stuck (bad _ (nV (x:=aU M fs ⟨U,pc,locals,l++[v]⟩) rfl hr))
   | true =>
    rw[if_pos (by simp[jD,hr])];have e1:aD (aU M fs ⟨U,pc,locals,l++[v]⟩)=(v.n,aU M fs ⟨U,pc,locals,l⟩):=rL (x:=aU M fs ⟨U,pc,locals,l++[v]⟩) rfl hr;have e2:tK u (aU M fs ⟨U,pc,locals,l++[v]⟩) a=if 0 < v.n/\iy u.J (typeOf (aF M.objs v.n).cls) (8+a)=false then cQ (aU M fs ⟨U,pc,locals,l⟩) 5 else dM (aU M fs ⟨U,pc,locals,l⟩) ⟨true,v.n⟩:=by
     unfold tK;simp only[e1];rfl
    rw[e2];have e3:(⟨true,v.n⟩:Vl)=v:=by cases v;simp only at hr;rw[hr]
    show Rl (th M fs _ (vF (if 0 < v.n/\iy u.J (typeOf (aF M.objs v.n).cls) (8+a)=false then .error 5 else dH M.objs ⟨U,pc,locals,l⟩ v) M.said) a) _;by_cases ht:0 < v.n/\iy u.J (typeOf (aF M.objs v.n).cls) (8+a)=false
    ·rw[if_pos ht,if_pos ht];exact Rl.LR (by decide) rfl rfl
    ·rw[if_neg ht,if_neg ht,e3];exact mE (f:=⟨U,pc,locals,l++[v]⟩) rfl
theorem CP:∀(n:Nat) (l:List Vl),jD (List.replicate n 0) l=true
 | 0,_=>rfl
 | n+1,[]=>rfl
 | n+1,v::l=>by simp[List.replicate_succ,jD,CP n l]
def vG (x:Sx) (i:ez):bM × Bool × Int:=if (fq (fY x) i).1=true then ({ (fq (fY x) i).2 with f:={ (fq (fY x) i).2.f with pc:=i.a} }:Sx).res else (fq (fY x) i).2.res
theorem HX {x:Sx} {i:ez} (h:(fq (fY x) i).2.st=true):(vG x i).2.1=true:=by
 unfold vG;split<;>exact h
theorem O8 (u:aO) (M:bM) (fs:List bQ) (f:bQ) (k a b:Int) (hk:8<=k/\k<=11) :
  Rl (match ee u ⟨k,a,b⟩ f.stack with
   | none=>.error 0
   | some (aR,rest)=>th M fs f (gG u ⟨k,a,b⟩ aR M.objs {f with stack:=rest} M.said) a) (vG (aU M fs f) ⟨k,a,b⟩):=by
 obtain⟨U,pc,locals,cP⟩:=f;simp only;have Oj:fY (aU M fs ⟨U,pc,locals,cP⟩)=aU M fs ⟨U,pc+1,locals,cP⟩:=rfl;have fin:∀(c:Bool) (l:List Vl),fq (fY (aU M fs ⟨U,pc,locals,cP⟩)) ⟨k,a,b⟩=(c,aU M fs ⟨U,pc+1,locals,l⟩)->Rl (th M fs ⟨U,pc,locals,cP⟩ (.ok (M.objs,⟨U,pc,locals,l⟩,M.said,c)) a) (vG (aU M fs ⟨U,pc,locals,cP⟩) ⟨k,a,b⟩):=by
  intro c l h;unfold vG;rw[h];cases c with
  | true=>exact Rl.ok rfl
  | false=>exact Rl.ok rfl
 have two:∀(p:Int->Int->Bool),(∀ x:Sx,fq x ⟨k,a,b⟩=(p (aB (aB x).2).1 (aB x).1,(aB (aB x).2).2))->di u ⟨k,a,b⟩=some [1,1]->(∀ v0 v1 objs f said,gG u ⟨k,a,b⟩ [v0,v1] objs f said=.ok (objs,f,said,p v0.n v1.n)) ->
   Rl (match ee u ⟨k,a,b⟩ cP with
    | none=>.error 0
    | some (aR,rest)=>th M fs ⟨U,pc,locals,cP⟩ (gG u ⟨k,a,b⟩ aR M.objs ⟨U,pc,locals,rest⟩ M.said) a) (vG (aU M fs ⟨U,pc,locals,cP⟩) ⟨k,a,b⟩):=by
  intro p hl hs hm;have bad:(aB (aB (aU M fs ⟨U,pc+1,locals,cP⟩)).2).2.st=true->(vG (aU M fs ⟨U,pc,locals,cP⟩) ⟨k,a,b⟩).2.1=true:=λh=>HX (by rw[Oj,hl];exact h);rcases jl cP with rfl|⟨l1,v1,rfl⟩
  ·rw[rN hs (by simp)];exact Rl.stuck (bad (nB _ (lD rfl)))
  ·rcases jl l1 with rfl|⟨l,v0,rfl⟩
   ·rw[rN hs (by simp)];refine Rl.stuck (bad ?_);cases hr:v1.ref with
    | true=>exact nB _ (gQ (l:=[]) (v:=v1) rfl hr)
    | false=>rw[jd (x:=aU M fs ⟨U,pc+1,locals,[]++[v1]⟩) (l:=[]) (v:=v1) rfl hr];exact lD rfl
   ·have LV:l++[v0]++[v1]=l++[v0,v1]:=by simp
    rw[LV]at bad fin ⊢;rw[HV hs];have eB:(aU M fs ⟨U,pc+1,locals,l++[v0,v1]⟩).f.stack=(l++[v0])++[v1]:=by simp[aU]
    cases ur:v1.ref with
    | true =>
     rw[if_neg (by simp[jD,ur])];exact Rl.stuck (bad (nB _ (gQ eB ur)))
    | false =>
     have e1:=jd eB ur;cases ig:v0.ref with
     | true =>
      rw[if_neg (by simp[jD,ig])];refine Rl.stuck (bad ?_);rw[e1];exact gQ (l:=l) (v:=v0) rfl ig
     | false =>
      rw[if_pos (by simp[jD,ig,ur])];show Rl (th M fs _ (gG u ⟨k,a,b⟩ [v0,v1] M.objs ⟨U,pc,locals,l⟩ M.said) a) _;rw[hm];refine fin _ l ?_;rw[show fY (aU M fs ⟨U,pc,locals,l++[v0,v1]⟩)=aU M fs ⟨U,pc+1,locals,l++[v0,v1]⟩from rfl,hl];have e2:aB (aB (aU M fs ⟨U,pc+1,locals,l++[v0,v1]⟩)).2=(v0.n,aU M fs ⟨U,pc+1,locals,l⟩):=by
       rw[e1];exact jd (l:=l) (v:=v0) rfl ig
      rw[e2,e1]
 have DA:k=8\/k=9\/k=10\/k=11:=by omega
 rcases DA with rfl|rfl|rfl|rfl
 ·exact two (λx y=>decide (x < y)) (λ_=>rfl) rfl (λ_ _ _ _ _=>rfl)
 ·exact two (λx y=>decide (x=y)) (λ_=>rfl) rfl (λ_ _ _ _ _=>rfl)
 ·have hl:∀ x:Sx,fq x ⟨10,a,b⟩=(decide ((aD x).1=0),(aD x).2):=λ_=>rfl;have bad:(aD (aU M fs ⟨U,pc+1,locals,cP⟩)).2.st=true->(vG (aU M fs ⟨U,pc,locals,cP⟩) ⟨10,a,b⟩).2.1=true:=λh=>HX (by rw[Oj,hl];exact h);rcases jl cP with rfl|⟨l,v,rfl⟩
  ·rw[nC rfl];exact Rl.stuck (bad (nU rfl))
  ·rw[rM rfl];cases hr:v.ref with
   | false =>
    rw[if_neg (by simp[jD,hr])];exact Rl.stuck (bad (nV (l:=l) (v:=v) rfl hr))
   | true =>
    rw[if_pos (by simp[jD,hr])];refine fin (decide (v.n=0)) l ?_;rw[Oj,hl,rL (x:=aU M fs ⟨U,pc+1,locals,l++[v]⟩) (l:=l) (v:=v) rfl hr];rfl
 ·rw[EA rfl];exact fin true cP rfl
theorem O9 (u:aO) (M:bM) (fs:List bQ) (f:bQ) (a b:Int) :
  Rl (match ee u ⟨22,a,b⟩ f.stack with
   | none=>.error 0
   | some (aR,rest)=>gW u ⟨22,a,b⟩ aR fs {M with ag:=fs++[{f with stack:=rest}]}) (xL (aU M fs f)):=by
 obtain⟨U,pc,locals,cP⟩:=f;simp only;rcases jl cP with rfl|⟨l,v,rfl⟩
 ·rw[nC rfl];unfold xL;have h:=rK (x:=aU M fs ⟨U,pc,locals,[]⟩) rfl;simp only;rw[if_pos h];exact Rl.stuck h
 ·rw[rM rfl];unfold xL;have e0:aZ (aU M fs ⟨U,pc,locals,l++[v]⟩)=(v,aU M fs ⟨U,pc,locals,l⟩):=gA (x:=aU M fs ⟨U,pc,locals,l++[v]⟩) rfl;rw[e0,if_pos (by simp[jD])];simp only;rw[if_neg (by simp[aU])];show Rl (rE v fs {M with ag:=fs++[⟨U,pc,locals,l⟩]}) (match fs.getLast? with
   | none=>_
   | some g=>_)
  rcases List.eq_nil_or_concat fs with rfl|⟨gs,g,rfl⟩
  ·exact Rl.ok rfl
  ·rw[List.concat_eq_append,sJ];have hl:(gs++[g]).getLast? = some g:=by simp
   have hd:(gs++[g]).dropLast=gs:=by simp
   rw[hl];simp only;by_cases h4:g.stack.length < 4
   ·rw[if_pos h4,rH (x:={aU M (gs++[g]) ⟨U,pc,locals,l⟩with fs:=(aU M (gs++[g]) ⟨U,pc,locals,l⟩).fs.dropLast,f:=g}) h4];refine Rl.ok ?_;simp only[aU,Sx.res,Sx.CH,hd]
   ·rw[if_neg h4,oU (x:={aU M (gs++[g]) ⟨U,pc,locals,l⟩with fs:=(aU M (gs++[g]) ⟨U,pc,locals,l⟩).fs.dropLast,f:=g}) (by show 4<=g.stack.length;omega)];exact Rl.stuck rfl
theorem LY (u:aO) (M:bM) (fs:List bQ) (f:bQ) (a b:Int) (hv:∀ v∈f.stack,kE M.objs.length v) :
  Rl (match ee u ⟨23,a,b⟩ f.stack with
   | none=>.error 0
   | some (aR,rest)=>gW u ⟨23,a,b⟩ aR fs {M with ag:=fs++[{f with stack:=rest}]})
   (if (aD (aU M fs f)).1=0 then (cQ (aD (aU M fs f)).2 2).res else if (aD (aU M fs f)).2.st=false then nr u (aD (aU M fs f)).1 (aD (aU M fs f)).2.CH (aD (aU M fs f)).2.st (aD (aU M fs f)).2.ft else (aD (aU M fs f)).2.res):=by
 obtain⟨U,pc,locals,cP⟩:=f;simp only at hv ⊢;have bad:∀ x:Sx,(aD x).2.st=true->Rl (.error 0) (if (aD x).1=0 then (cQ (aD x).2 2).res else if (aD x).2.st=false then nr u (aD x).1 (aD x).2.CH (aD x).2.st (aD x).2.ft else (aD x).2.res):=by
  intro x h;split
  ·exact Rl.stuck (sO _ _ h)
  ·rw[if_neg (by rw[h];simp)];exact Rl.stuck h
 rcases jl cP with rfl|⟨l,v,rfl⟩
 ·rw[nC rfl];exact bad _ (nU rfl)
 ·rw[rM rfl];have Gu:=hv v (by simp);cases hr:v.ref with
  | false =>
   rw[if_neg (by simp[jD,hr])];exact bad _ (nV (l:=l) (v:=v) rfl hr)
  | true =>
   rw[if_pos (by simp[jD,hr])];have hn:=Gu.1 hr;have e0:aD (aU M fs ⟨U,pc,locals,l++[v]⟩)=(v.n,aU M fs ⟨U,pc,locals,l⟩):=rL (x:=aU M fs ⟨U,pc,locals,l++[v]⟩) rfl hr;rw[e0];show Rl (match eE M.objs v.n (up u.J (aF M.objs v.n).cls 1)with
    | .error e=>.error e
    | .ok _=>.ok (cK u v.n {M with ag:=fs++[⟨U,pc,locals,l⟩]})) _
   simp only;by_cases h0:v.n=0
   ·rw[gK h0,if_pos h0];exact Rl.LR (by decide) rfl rfl
   ·have h1:0 < v.n:=by omega
    rw[if_neg h0,if_pos (show(aU M fs ⟨U,pc,locals,l⟩).st=false from rfl)];unfold nr;cases hu:up u.J (aF M.objs v.n).cls 1 with
    | true =>
     have:=lO hu;rw[gR h1 rfl,if_neg (by
      show ¬((aF M.objs v.n).cls < 0\/up u.J (aF M.objs v.n).cls 1=false);rw[hu];simp;omega)]
     exact Rl.ok rfl
    | false =>
     rw[gJ h1 rfl,if_pos (.inr hu)];exact Rl.stuck rfl
theorem Pa (u:aO) (M:bM) (fs:List bQ) (f:bQ) (a b:Int) (qO:fs.length+1<=4) :
  Rl (match ee u ⟨20,a,b⟩ f.stack with
   | none=>.error 0
   | some (aR,rest)=>gW u ⟨20,a,b⟩ aR fs {M with ag:=fs++[{f with stack:=rest}]}) (kH u (aU M fs f) ⟨20,a,b⟩):=by
 have hc:bP u ⟨20,a,b⟩=(aV u a).args.length:=rfl;have hs:di u ⟨20,a,b⟩=some (List.replicate (aV u a).args.length 0):=rfl;unfold ee;rw[hs];simp only[List.length_replicate];by_cases hl:f.stack.length < (aV u a).args.length
 ·rw[if_pos hl];unfold kH;rw[if_pos (.inr (by rw[hc];show(f.stack.length:Int) < _;omega))];exact Rl.stuck rfl
 ·rw[if_neg hl,if_pos (CP _ _)];have qN:¬(bP u ⟨20,a,b⟩ < 0\/((aU M fs f).f.stack.length:Int) < bP u ⟨20,a,b⟩):=by
   rw[hc];show ¬(((aV u a).args.length:Int) < 0\/(f.stack.length:Int) < (aV u a).args.length);omega
  rw[Eu qN,hc];show Rl (jA u a _ _) _;unfold jA;by_cases h4:fs.length+1=4
  ·rw[if_pos (by simp;omega),if_pos (show(aU M fs f).fs.length+1=4 from h4)];exact Rl.LR (by decide) rfl rfl
  ·rw[if_neg (by simp;omega),if_neg (show ¬(aU M fs f).fs.length+1=4 from h4)];exact Rl.ok rfl
theorem Pb (u:aO) (M:bM) (fs:List bQ) (f:bQ) (a b:Int) (qO:fs.length+1<=4) (ha:0<=a) (hv:∀ v∈f.stack,kE M.objs.length v) :
  Rl (match ee u ⟨21,a,b⟩ f.stack with
   | none=>.error 0
   | some (aR,rest)=>gW u ⟨21,a,b⟩ aR fs {M with ag:=fs++[{f with stack:=rest}]}) (kH u (aU M fs f) ⟨21,a,b⟩):=by
 have hc:bP u ⟨21,a,b⟩=if 0<=find u a b then ((aV u (find u a b)).args.length:Int)+1 else -1:=rfl
 have hs:di u ⟨21,a,b⟩=if find u a b < 0 then none else some (2::List.replicate (aV u (find u a b)).args.length 0):=rfl
 unfold ee;rw[hs];by_cases hf:find u a b < 0
 ·rw[if_pos hf];rw[if_neg (by omega)]at hc;unfold kH;rw[if_pos (.inl (by rw[hc];decide))];exact Rl.stuck rfl
 ·rw[if_neg hf];rw[if_pos (by omega)]at hc;simp only[List.length_cons,List.length_replicate];generalize hn:(aV u (find u a b)).args.length=n at hc ⊢;by_cases hl:f.stack.length < n+1
  ·rw[if_pos hl];unfold kH;rw[if_pos (.inr (by rw[hc];show(f.stack.length:Int) < _;omega))];exact Rl.stuck rfl
  ·rw[if_neg hl];have qN:¬(bP u ⟨21,a,b⟩ < 0\/((aU M fs f).f.stack.length:Int) < bP u ⟨21,a,b⟩):=by
    rw[hc];show ¬((n:Int)+1 < 0\/(f.stack.length:Int) < (n:Int)+1);omega
   have hm:(aU M fs f).f.stack.length-(bP u ⟨21,a,b⟩).toNat=f.stack.length-(n+1):=by rw[hc];rfl
   obtain⟨v0,r,hg⟩:∃ v0 r,f.stack.drop (f.stack.length-(n+1))=v0::r:=by
    cases hd:f.stack.drop (f.stack.length-(n+1))with
    | nil=>have:=congrArg List.length hd;simp at this;omega
    | cons v0 r=>exact⟨v0,r,rfl⟩
   have S3:((aU M fs f).f.stack.drop ((aU M fs f).f.stack.length-(bP u ⟨21,a,b⟩).toNat)).getD 0 cU=v0:=by
    rw[hm];show(f.stack.drop _).getD 0 cU=v0;rw[hg];rfl
   have yU:=Ew qN S3;rw[hm]at yU;rw[yU];have qE:v0∈f.stack:=by
    have:v0∈f.stack.drop (f.stack.length-(n+1)):=by rw[hg];simp
    exact List.mem_of_mem_drop this
   have Gu:=hv v0 qE;have hb:=S0 M fs f;cases hr:v0.ref with
   | false =>
    rw[if_neg (by rw[hg];simp[jD,hr]),if_pos rfl];exact Rl.stuck rfl
   | true =>
    have qP:=Gu.1 hr;rw[if_pos (by rw[hg];simp[jD,hr,CP]),if_neg (by simp)];show Rl (match eE M.objs ((f.stack.drop (f.stack.length-(n+1))).getD 0 cU).n (up u.J (aF M.objs ((f.stack.drop (f.stack.length-(n+1))).getD 0 cU).n).cls a)with
     | .error e=>.error e
     | .ok o=>jA u (find u o.cls b) (f.stack.drop (f.stack.length-(n+1))) {M with ag:=fs++[{f with stack:=f.stack.take (f.stack.length-(n+1))}]}) _
    have tY:(f.stack.drop (f.stack.length-(n+1))).getD 0 cU=v0:=by rw[hg];rfl
    rw[tY];by_cases h0:v0.n=0
    ·rw[gK h0,h0,zm hb,if_pos (.inr (by show(0:Int) < 2;decide))];exact Rl.LR (by decide) rfl rfl
    ·have h1:0 < v0.n:=by omega
     have dO:fU u (aF M.objs v0.n).cls a = !up u.J (aF M.objs v0.n).cls a:=by
      unfold fU;cases hu:up u.J (aF M.objs v0.n).cls a with
      | true =>
       have:=lO hu;simp[show ¬a < 0 by omega,this]
      | false=>simp[ha]
     cases hu:up u.J (aF M.objs v0.n).cls a with
     | true =>
      rw[wR hb h0 (by show fU u (aF M.objs v0.n).cls a=false;rw[dO,hu];rfl),if_neg hb,gR h1 rfl];show Rl (jA u _ _ _) _;unfold jA;by_cases h4:fs.length+1=4
      ·rw[if_pos (by simp;omega),if_pos (show(aU M fs f).fs.length+1=4 from h4)];exact Rl.LR (by decide) rfl rfl
      ·rw[if_neg (by simp;omega),if_neg (show ¬(aU M fs f).fs.length+1=4 from h4)];exact Rl.ok rfl
     | false =>
      rw[zn hb h0 (by show fU u (aF M.objs v0.n).cls a=true;rw[dO,hu];rfl),if_pos (.inl rfl),gJ h1 rfl];exact Rl.stuck rfl
def Pc (u:aO) (M:bM) (fs:List bQ) (f:bQ):bM × Bool × Int :=
 if f.pc=(aV u f.U).code.length then (M,true,0)else zk u (aU M fs f) ((aV u f.U).code.getD f.pc.toNat ep)
theorem Pd (u:aO) (M:bM) (fs:List bQ) (f:bQ) (hu:cz u) (h:oh u M) (hf:M.ag=fs++[f]):Rl (kD u fs f M) (Pc u M fs f):=by
 have hF:=h.iN f (by rw[hf];simp);have qO:fs.length+1<=4:=by have:=h.nf;rw[hf]at this;simpa using this
 unfold Pc;by_cases AW:f.pc=(aV u f.U).code.length
 ·rw[if_pos AW];unfold kD;simp only;rw[if_pos (by omega)];exact Rl.stuck rfl
 ·rw[if_neg AW];have fV:=hF.2.1;have bV:f.pc.toNat < (aV u f.U).code.length:=by omega
  have jW:(aV u f.U).code.getD f.pc.toNat ep=(aV u f.U).code[f.pc.toNat]:=by simp[bV]
  have lQ:=(hu.aV hF.1).2.1.2.2.2.1 _ (x_ bV);rw[<-jW]at lQ;have hd:kD u fs f M=match ee u ((aV u f.U).code.getD f.pc.toNat ep) f.stack with
   | none=>.error 0
   | some (aR,rest)=>if 20<=((aV u f.U).code.getD f.pc.toNat ep).kind/\((aV u f.U).code.getD f.pc.toNat ep).kind<=23 then gW u ((aV u f.U).code.getD f.pc.toNat ep) aR fs {M with ag:=fs++[{f with stack:=rest}]}
    else th M fs f (gG u ((aV u f.U).code.getD f.pc.toNat ep) aR M.objs {f with stack:=rest} M.said) ((aV u f.U).code.getD f.pc.toNat ep).a:=by
   unfold kD;simp only;rw[if_neg (by omega)];rfl
  rw[hd];generalize (aV u f.U).code.getD f.pc.toNat ep=x at lQ ⊢;obtain⟨k,a,b⟩:=x;simp only;have jB:=hF.2.2.2.2.2;have eB:zk u (aU M fs f) ⟨k,a,b⟩=if k=22 then xL (aU M fs f)
   else if k=20\/k=21 then kH u (aU M fs f) ⟨k,a,b⟩
   else if k=23 then (if (aD (aU M fs f)).1=0 then (cQ (aD (aU M fs f)).2 2).res else if (aD (aU M fs f)).2.st=false then nr u (aD (aU M fs f)).1 (aD (aU M fs f)).2.CH (aD (aU M fs f)).2.st (aD (aU M fs f)).2.ft else (aD (aU M fs f)).2.res)
   else if 8<=k/\k<=11 then vG (aU M fs f) ⟨k,a,b⟩
   else rO u (aU M fs f) ⟨k,a,b⟩:=rfl
  rw[eB];by_cases Fu:k=22
  ·subst Fu;rw[if_pos rfl];simp only[show(20:Int)<=22/\(22:Int)<=23 from by decide,and_self,if_true];exact O9 u M fs f a b
  rw[if_neg Fu];by_cases OS:k=20
  ·subst OS;rw[if_pos (.inl rfl)];simp only[show(20:Int)<=20/\(20:Int)<=23 from by decide,and_self,if_true];exact Pa u M fs f a b qO
  by_cases OT:k=21
  ·subst OT;have:=(aI (p:=5) (q:=9) rfl).1 lQ;simp[bz]at this;rw[if_pos (.inr rfl)];simp only[show(20:Int)<=21/\(21:Int)<=23 from by decide,and_self,if_true];exact Pb u M fs f a b qO this.1.1 jB
  rw[if_neg (by omega)];by_cases Lw:k=23
  ·subst Lw;rw[if_pos rfl];simp only[show(20:Int)<=23/\(23:Int)<=23 from by decide,and_self,if_true];exact LY u M fs f a b jB
  rw[if_neg Lw];have Hw:¬(20<=k/\k<=23):=by omega
  simp only[Hw,if_false];by_cases kj:8<=k/\k<=11
  ·rw[if_pos kj];exact O8 u M fs f k a b kj
  rw[if_neg kj];by_cases kt:12<=k/\k<=19
  ·refine Jd u M fs f k a b kt jB (λhk=>?_) (λhk=>?_)
   ·rcases hk with rfl|rfl|rfl;all_goals
     have:=(aI (p:=6) (q:=0) rfl).1 lQ;simp[bz]at this;exact this.1
   ·exact(lQ.wO.1 hk).1
  ·have SE:k=1\/k=2\/k=3\/k=4\/k=5\/k=6\/k=7\/k=24:=by
    obtain⟨p,q,hw,_⟩:=lQ;have ef:=wE hw;simp only[ku,eX,List.mem_cons,List.not_mem_nil,or_false,Prod.mk.injEq]at ef;omega
   exact LU u M fs f k a b SE
theorem XM.made {h h1 h2:Heap} {mc:List Value} {M:bM} {B:List Nat} {bx:Nat} {t:TypeId} {us:List Value} {u:aO} (own:gN h1 mc M B) (nd:Nd B) (fr:∀ b∈B,h b=none) (hl:h.le h1) (hb:h1 bx=none) (hl2:h1.le h2)
  (hg:h2 bx=some (.cells (us++mc++[Value.bool false,Value.int .i64 0]).toArray t (0,0))) (hu:dG h us u):XM h h2 bx us u M false 0 B:=by
 have hn:bx ∉ B:=λhx=>by
  obtain⟨o,ho⟩:=own.in bx hx;rw[hb]at ho;cases ho
 refine⟨⟨y_ hl hl2,⟨mc,t,hg,own.aJ (cR.of_le hl2 _)⟩,?_,λb hx=>?_⟩,hu⟩
 ·intro a;have:=nd a;by_cases ha:bx=a
  ·subst ha;simp[List.count_eq_zero.2 hn]
  ·simp[ha];exact this
 ·rcases List.mem_cons.1 hx with rfl|hx
  ·cases hh:h b with
   | none=>rfl
   | some o=>rw[hl b o hh]at hb;cases hb
  ·exact fr b hx
theorem XM.again {h h4 h5 h6:Heap} {mc:List Value} {M:bM} {B:List Nat} {bx:Nat} {t:TypeId} {o:Obj} {us:List Value} {u:aO} {sk:Bool} {ft:Int} (own:gN h5 mc M B) (nd:Nd B) (fr:∀ b∈B,h4 b=none) (hl:h.le h4) (Ny:h4.le h5) (hb:h4 bx=some o) (hn:h bx=none)
  (hg:h6 bx=some (.cells (us++mc++[Value.bool sk,Value.int .i64 ft]).toArray t (0,0))) (aJ:∀ b,b≠bx->h6 b=h5 b) (hu:dG h us u):XM h h6 bx us u M sk ft B:=by
 have tR:bx ∉ B:=λhx=>by have:=fr bx hx;rw[hb]at this;cases this
 refine⟨⟨λb x hx=>?_,⟨mc,t,hg,own.aJ λb fO o ho=>?_⟩,?_,λb hx=>?_⟩,hu⟩
 ·have:b≠bx:=by rintro rfl;rw[hn]at hx;cases hx
  rw[aJ b this];exact Ny _ _ (hl _ _ hx)
 ·have:b≠bx:=by rintro rfl;exact tR fO
  rw[aJ b this];exact ho
 ·intro a;have:=nd a;by_cases ha:bx=a
  ·subst ha;simp[List.count_eq_zero.2 tR]
  ·simp[ha];exact this
 ·rcases List.mem_cons.1 hx with rfl|hx
  ·exact hn
  ·cases hh:h b with
   | none=>rfl
   | some o=>have:=fr b hx;rw[hl _ _ hh]at this;cases this
theorem XM.out {h0 h:Heap} {bx:Nat} {us:List Value} {u:aO} {M:bM} {sk:Bool} {ft:Int} {B:List Nat} (hX:XM h0 h bx us u M sk ft B):∃ po co pf cf ps cs,fj h bx 2 7=some (nI po co pf cf ps cs M)/\gN h (nI po co pf cf ps cs M) M B/\Nd B/\∀ b∈B,h0 b=none:=by
 have Fv:=hX.HR;obtain⟨⟨le,⟨mc,t,hb,own⟩,nd,fr⟩,_⟩:=hX;obtain⟨po,co,pf,cf,ps,cs,rfl⟩:=own.nI;refine⟨po,co,pf,cf,ps,cs,?_,own,nd.less λa=>by simp only[X_];omega,λb hx=>fr b (List.mem_cons_of_mem _ hx)⟩;have h7:(nI po co pf cf ps cs M).length=7:=rfl;rw[bO hb 7 2 (by simp[Fv,h7])];congr 1
 rw[List.append_assoc,List.drop_append_of_le_length (by omega),<-Fv,List.drop_length,List.nil_append];have:(7:Nat)=(nI po co pf cf ps cs M).length:=rfl;rw[this,List.take_left]
theorem XM.sP {h0 h:Heap} {bx:Nat} {us:List Value} {u:aO} {M:bM} {sk:Bool} {ft n:Int} {B:List Nat} {K:Heap->Prop} (hX:XM h0 h bx us u M sk ft B) (hk:∀ h',XM h0 h' bx us u {M with steps:=n} sk ft B->K h'):St h bx 5 [.int .i64 n] K:=by
 have Fv:=hX.HR;obtain⟨t,vo,vf,vs,hb,_,_,_,fe⟩:=hX.ma.ints;have hr:=(fe {M with steps:=n} rfl rfl rfl).1;refine lP hb (i:=3) (ay vo vf vs {M with steps:=n}) (by rw[Fv]) (by simp[ay]) rfl (λh' e' _=>?_);rw[<-e']at hr;exact hk h' ⟨hr,hX.un⟩
theorem XM.Q0 {h0 h:Heap} {bx:Nat} {us:List Value} {u:aO} {M:bM} {sk:Bool} {ft n:Int} {B:List Nat} {K:Heap->Prop} (hX:XM h0 h bx us u M sk ft B) (hk:∀ h',XM h0 h' bx us u {M with fin:=n} sk ft B->K h'):St h bx 6 [.int .i64 n] K:=by
 have Fv:=hX.HR;obtain⟨t,vo,vf,vs,hb,_,_,_,fe⟩:=hX.ma.ints;have hr:=(fe {M with fin:=n} rfl rfl rfl).1;refine lP hb (i:=4) (ay vo vf vs {M with fin:=n}) (by rw[Fv]) (by simp[ay]) rfl (λh' e' _=>?_);rw[<-e']at hr;exact hk h' ⟨hr,hX.un⟩
theorem wT {K:Value->Heap->Prop} {E:List PanicEntry->Heap->Prop} (mc:List Value) (M:bM) (h:Heap) (hr:wI h mc M)
  (hK:∀ h' po co pf cf ps cs B,h.le h'->gN h' (nI po co pf cf ps cs M) M B->Nd B->(∀ b∈B,h b=none)->K (.agg ⟨nI po co pf cf ps cs M⟩) h'):iF prog 31 [.agg ⟨mc⟩] h K E:=cX (wQ mc M h hr) (λv h' hh=>by
 obtain⟨l1,D9,B,rfl,own,nd,fr⟩:=hh;obtain⟨po,co,pf,cf,ps,cs,rfl⟩:=own.nI;exact⟨l1,hK h' po co pf cf ps cs B l1 own nd fr⟩)
theorem zo {K:Value->Heap->Prop} {E:List PanicEntry->Heap->Prop} (mc:List Value) (M:bM) (h:Heap) (hr:wI h mc M)
  (hK:∀ h' po co pf cf ps cs B,h.le h'->gN h' (nI po co pf cf ps cs M) M B->Nd B->(∀ b∈B,h b=none)->K (.agg ⟨nI po co pf cf ps cs M⟩) h'):Vc.Call prog 31 [.agg ⟨mc⟩] h K E:=aC (wQ mc M h hr) (λv h' hh=>by
 obtain⟨l1,D9,B,rfl,own,nd,fr⟩:=hh;obtain⟨po,co,pf,cf,ps,cs,rfl⟩:=own.nI;exact hK h' po co pf cf ps cs B l1 own nd fr)
def oY (u:aO) (fs:List bQ) (f:bQ) (M:bM):bM:=match kD u fs f M with
 | .ok M'=>{M' with steps:=M.steps+1}
 | .error k=>if k=0 then {M with fin:=3,steps:=M.steps+1}else {cK u k M with steps:=M.steps+1}
theorem CQ {u:aO} {M:bM} {fs:List bQ} {f:bQ} (hf:M.ag=fs++[f]) (hg:¬(M.fin≠0\/200<=M.steps\/200<=M.said.length\/207<=M.objs.length)):fB u M=oY u fs f M:=by
 rw[wK hf hg];unfold oY;cases hd:kD u fs f M with
 | ok M'=>simp only[Bd hd]
 | error k =>
  by_cases hk:k=0
  ·simp[hk]
  ·simp[hk,qn]
theorem Bq (mc us:List Value) (u:aO) (M:bM) (h:Heap) (fs:List bQ) (f:bQ) (hr:wI h mc M) (hu:dG h us u) (hT:cz u) (hI:oh u M) (hf:M.ag=fs++[f]) (fL:M.fin=0) :
  bI prog 32 [.agg ⟨us⟩,.agg ⟨mc⟩] h λv h'=>h.le h'/\∃ D9 B,v=.agg ⟨D9⟩/\gN h' D9 (oY u fs f M) B/\Nd B/\∀ b∈B,h b=none:=by
 have ig:=hr;have iw:=hu;have NO:=Pd u M fs f hT hI hf;have Fq:f∈M.ag:=by rw[hf];simp
 have hF:=hI.iN f Fq;have eB:=hI.steps;have adQ:M.ag.length=fs.length+1:=by rw[hf];simp
 have Eh:=hI.nf;obtain⟨p,cc,q,d,rfl,hcs,fM,ji,hl2⟩:=hu.form;obtain⟨vo,vf,vs,rfl,s1,s2,ho,gz,hs⟩:=hr;obtain⟨po,co,rfl,_,_⟩:=ho.len;obtain⟨pf,cf,rfl,_,_⟩:=gz.len;obtain⟨ps,cs,jB⟩:∃ p c,vs=.slice p M.said.length c:=by
  obtain⟨_,_,p,c,e,_⟩:=hs;exact⟨p,c,by simpa using e⟩
 subst jB;have bV:fs.length < M.ag.length:=by omega
 have hfe:M.ag[fs.length]=f:=by simp[hf]
 obtain⟨bb,off,xs,hq,e1,v1,v2,rfl,e2,e3⟩:=gz.get bV;rw[hfe]at e1 e2 e3;obtain⟨_,_,Us,ZJ,rfl,_⟩:=e2;obtain⟨_,_,pv2,cv2,rfl,_⟩:=e3;have hi:f.U.toNat < u.methods.length:=by have:=hF.1;omega
 obtain⟨bu,ou,ms,hqu,eu1,eu2⟩:=fM.get hi;have oE:aV u f.U=u.methods[f.U.toNat]:=gU hi (by have:=hF.1;omega);obtain⟨p1,c1,p2,c2,p3,c3,p4,c4,e5,k1,k2,k3,k4,k5,k6,k7,k8,d1,d2,d3,d4⟩:=eu2.form;subst e5;rw[<-oE]at k6 d2;have ZK:rd h bu (ou+f.U.toNat*8+5)=some (.slice p2 (aV u f.U).code.length c2):=by rw[oE];exact aE eu1 (i:=5) rfl
 have AZ:=hT.aV hF.1;have adR:=hF.2.1;have S4:Pc u M fs f=if f.pc=(aV u f.U).code.length then (M,true,0)else zk u (aU M fs f) ((aV u f.U).code.getD f.pc.toNat ep):=rfl
 generalize jv:Pc u M fs f=res at NO S4;have Au:off+(((M.ag.length:Int)-1).toNat)*4=off+fs.length*4:=by omega
 have Dh:fj h bb (off+(((M.ag.length:Int)-1).toNat)*4) 4=some [.int .i64 f.U,.int .i64 f.pc,.slice Us (List.map bR f.locals).length ZJ,.slice pv2 (List.map bR f.stack).length cv2]:=by rw[Au];exact e1
 have uU:(∃ M',res=(M',false,0)/\oY u fs f M = {M' with steps:=M.steps+1})\/(res.2.1=true/\oY u fs f M = {M with fin:=3,steps:=M.steps+1})\/(∃ k,(0 < k/\k<=7)/\res.2.1=false/\res.2.2=k/\oY u fs f M = {cK u k M with steps:=M.steps+1}):=by
  cases hd:kD u fs f M with
  | ok M' =>
   rw[hd]at NO;exact .inl ⟨M',NO,by unfold oY;rw[hd]⟩
  | error k =>
   rw[hd]at NO;have pI:=CG hd;by_cases hk:k=0
   ·refine .inr (.inl ⟨?_,by unfold oY;rw[hd];simp[hk]⟩);simpa [Rl,hk]using NO
   ·refine .inr (.inr ⟨k,pI.resolve_left hk,?_⟩);have:res.2.1=false/\res.2.2=k:=by simpa [Rl,hk]using NO
    exact⟨this.1,this.2,by unfold oY;rw[hd];simp[hk]⟩
 generalize oY u fs f M=Mx at uU ⊢;have ZL:f.pc≠(aV u f.U).code.length->ZD u (aU M fs f):=λhp=>⟨⟨⟨hI.len.1,by show M.objs.length<=300;have:=hI.len.2;omega⟩,hI.objs,by show fs.length<=3;omega,hF,by show(0:Int)<=0;omega⟩,λg hg=>hI.iN g (by rw[hf];simp;exact .inl hg),rfl,rfl,by show f.pc < ((aV u f.U).code.length:Int);omega,by show M.said.length<=300;have:=hI.kG;omega⟩
 have acR:(aU M fs f).CH=M:=by unfold aU Sx.CH;rw[<-hf]
 have LZ:∀ k,0 < k->k<=7->nr u k M false 0=(cK u k M,false,0):=λk h1 h2=>by
  unfold nr;rw[hI.low k h1 h2,if_neg];rw[uW hT.1 (by omega) (by have:=hT.1.1;omega)];simp
 have Gv:∀ m∈u.methods,∀ c∈m.catches,(0<=c.hi/\c.hi<=1000)/\0<=c.cls:=λm hm c hc=>by
  have AZ:=hT.2.2.2.1 m hm;have h1:=AZ.2.2.2 c hc;have h2:=AZ.2.1.2.1;obtain⟨q1,q2,q3,_⟩:=h1;omega
 have oT:f.pc≠(aV u f.U).code.length->∃ bc oc ck ca cb,p2=some ⟨bc,oc,none⟩/\fj h bc (oc+f.pc.toNat*3) 3=some [.int .i64 ck,.int .i64 ca,.int .i64 cb]/\eU u (aV u f.U) ⟨ck,ca,cb⟩/\(aV u f.U).code.getD f.pc.toNat ep=⟨ck,ca,cb⟩:=by
  intro hp;have S5:f.pc.toNat < (aV u f.U).code.length:=by omega
  obtain⟨bc,oc,cvs,Lf,f1,f2,f3⟩:=k6.get S5;have hg:(aV u f.U).code.getD f.pc.toNat ep=(aV u f.U).code[f.pc.toNat]:=by simp[S5]
  subst f2;exact⟨bc,oc,_,_,_,Lf,f1,AZ.2.1.2.2.2.1 _ (x_ S5),hg⟩
 have adx:=AZ.2.1.2.1;refine bZ au func32 F32 abc rfl ?_;unfold ay;conv=>whnf
 repeat' ((first|exact trivial|apply T_|refine wT _ M h ig (λh1 po1 co1 pf1 cf1 ps1 cs1 B1 l1 acS nd1 fr1=>?_))<;>conv=>whnf)
 refine ec ([.slice p u.J.length cc,.slice q u.methods.length d]++nI po1 co1 pf1 cf1 ps1 cs1 M++[.bool false,.int .i64 0]) rfl (λbx h2 fO ee2 l2 g2=>?_);have pJ:XM h h2 bx [.slice p u.J.length cc,.slice q u.methods.length d] u M false 0 B1:=XM.made acS nd1 fr1 l1 fO l2 g2 iw;have Ut:=y_ l1 l2;have ZM:h bx=none:=by
  cases hh:h bx with
  | none=>rfl
  | some o=>rw[l1 bx o hh]at fO;cases fO
 have acT:=bK Ut Dh;have L0:=aX Ut ZK;conv=>whnf
 refine ah ?_;conv=>whnf
 refine aq ?_;conv=>whnf
 refine aG hq ?_;conv=>whnf
 refine dJ acT ?_;conv=>whnf
 repeat' ((first|exact trivial|apply T_|refine ob (by have:=hF.1;omega) ?_|refine aG hqu ?_|refine ld L0 ?_)<;>conv=>whnf)
 apply ax<;>intro ZN;all_goals conv=>whnf
 ·have HY:res=(M,true,0):=by rw[S4,if_pos ZN]
  refine pJ.stuck (λh3 lR sY e3=>?_);obtain⟨B3,hB3⟩:∃ B3,B3=B1:=⟨_,rfl⟩
  rw[<-hB3]at lR;replace lR:XM h h3 bx [.slice p u.J.length cc,.slice q u.methods.length d] u res.1 res.2.1 res.2.2 B3:=by rw[HY];exact lR
  have L4:=lR.ma.le;refine uU.elim (λhA=>?_) (λuU=>uU.elim (λhB=>?_) (λhC=>?_))
  ·refine hA.elim λM' hA=>?_;have L5:=hA.2;have L6:=hA.1;rw[L6]at lR;have r9:=lR.me.1;have iM:=lR.me.2.1;conv=>whnf
   repeat' ((first|refine ld r9 ?_|refine ld iM ?_|refine aq ?_|refine ah ?_|refine ptr ?_)<;>conv=>whnf)
   refine lR.sP (λh4 mD=>?_);refine mD.out.elim λJe ho=>ho.elim λJf ho=>ho.elim λJg ho=>ho.elim λJh ho=>ho.elim λJi ho=>ho.elim λJj ho=>?_;have zu:=ho.1;conv=>whnf
   refine dJ zu ?_;conv=>whnf
   rw[L5];exact⟨mD.ma.le,_,B3,rfl,ho.2⟩
  ·have L5:=hB.2;rw[hB.1]at lR;have r9:=lR.me.1;conv=>whnf
   repeat' ((first|refine ld r9 ?_|refine aq ?_|refine ah ?_|refine ptr ?_)<;>conv=>whnf)
   refine zo _ M h3 (ig.le L4) (λh4 Je Jf Jg Jh Ji Jj B4 l4 Gz ON OO=>?_);refine lR.ma.cell.elim λZO hc=>hc.elim λt3 hc=>?_;have s7:=hc.1;have ZP:ZO.length=7:=by obtain⟨_,_,_,_,_,_,rfl,_⟩:=hc.2;rfl
   conv=>whnf
   refine Ag (l4 _ _ s7) ([.slice p u.J.length cc,.slice q u.methods.length d]++nI Je Jf Jg Jh Ji Jj M++[.bool true,.int .i64 res.2.2]) (by simp[ZP]) (m4 (by simp) (by rw[ZP];rfl)) (λh5 e5 g5=>?_);have S6:XM h h5 bx [.slice p u.J.length cc,.slice q u.methods.length d] u M true res.2.2 B4:=XM.again Gz ON OO L4 l4 s7 ZM g5 (λb hb=>by rw[e5];simp only[Heap.set,hb,if_false]) iw;conv=>whnf
   refine S6.Q0 (λh6 Pe=>?_);conv=>whnf
   refine ah ?_;conv=>whnf
   refine Pe.sP (λh7 L7=>?_);refine L7.out.elim λJe ho=>ho.elim λJf ho=>ho.elim λJg ho=>ho.elim λJh ho=>ho.elim λJi ho=>ho.elim λJj ho=>?_;have zu:=ho.1;conv=>whnf
   refine dJ zu ?_;conv=>whnf
   rw[L5];exact⟨L7.ma.le,_,B4,rfl,ho.2⟩
  ·refine hC.elim λk hC=>?_;have hk:=hC.1;have L5:=hC.2.2.2;have dW:=LZ k hk.1 hk.2;rw[hC.2.1,hC.2.2.1]at lR;have r9:=lR.me.1;have iM:=lR.me.2.1;conv=>whnf
   refine ld r9 ?_;conv=>whnf
   refine ld iM ?_;conv=>whnf
   refine gI hk.1 ?_;conv=>whnf
   refine ld iM ?_;conv=>whnf
   repeat' ((first|exact trivial|apply T_|refine wT _ M h3 (ig.le L4) (λh4 Je Jf Jg Jh Ji Jj B4 l4 Gz ON OO=>?_))<;>conv=>whnf)
   refine ec ([.slice p u.J.length cc,.slice q u.methods.length d]++nI Je Jf Jg Jh Ji Jj M++[.bool false,.int .i64 0]) rfl (λZQ h5 mz ee5 l5 g5=>?_);have S7:∀ b∈B4,h b=none:=λb hb=>by
    cases hh:h b with
    | none=>rfl
    | some o=>have:=OO b hb;rw[L4 b o hh]at this;cases this
   have S6:XM h h5 ZQ [.slice p u.J.length cc,.slice q u.methods.length d] u M false 0 B4:=XM.made Gz ON S7 (y_ L4 l4) mz l5 g5 iw;have L8:=CN S6 hT.1 k (by have:=hI.len;omega) (by have:=hI.len;omega) (by omega) (by rw[hI.low k hk.1 hk.2];have:=hT.1.1;omega) (λg hg=>(hI.iN g hg).1) Gv;rw[dW]at L8;conv=>whnf
   refine aC L8 (λv h6 hh=>?_);refine hh.elim λB6 hh=>?_;have Pe:XM h h6 ZQ [.slice p u.J.length cc,.slice q u.methods.length d] u (cK u k M) false 0 B6:=hh.1;have w9:=Pe.me.1;conv=>whnf
   refine ld w9 ?_;conv=>whnf
   refine ah ?_;conv=>whnf
   refine Pe.sP (λh7 L7=>?_);refine L7.out.elim λJe ho=>ho.elim λJf ho=>ho.elim λJg ho=>ho.elim λJh ho=>ho.elim λJi ho=>ho.elim λJj ho=>?_;have zu:=ho.1;conv=>whnf
   refine dJ zu ?_;conv=>whnf
   rw[L5];exact⟨L7.ma.le,_,B6,rfl,ho.2⟩
 ·have HY:res=zk u (aU M fs f) ((aV u f.U).code.getD f.pc.toNat ep):=by rw[S4,if_neg ZN]
  refine(oT ZN).elim λbc hc=>hc.elim λoc hc=>hc.elim λck hc=>hc.elim λca hc=>hc.elim λcb hc=>?_;have Lf:=hc.1;have YR:=bK Ut hc.2.1;have Zs:XS h h2 bx [.slice p u.J.length cc,.slice q u.methods.length d] u (aU M fs f) B1:=by
   show XM h h2 bx _ u (aU M fs f).CH false 0 B1;rw[acR];exact pJ
  have Ln:=SZ Zs (ZL ZN) hT ck ca cb hc.2.2.1;rw[hc.2.2.2]at HY;rw[<-HY]at Ln;repeat' ((first|exact trivial|apply T_|refine ob (by have:=hF.1;omega) ?_|refine aG hqu ?_|refine ld L0 ?_|refine aG Lf ?_|refine dJ YR ?_)<;>conv=>whnf)
  refine aC Ln (λv h3 hh=>?_);refine hh.elim λB3 hh=>?_;have lR:=hh.1;have L4:=lR.ma.le;refine uU.elim (λhA=>?_) (λuU=>uU.elim (λhB=>?_) (λhC=>?_))
  ·refine hA.elim λM' hA=>?_;have L5:=hA.2;have L6:=hA.1;rw[L6]at lR;have r9:=lR.me.1;have iM:=lR.me.2.1;conv=>whnf
   repeat' ((first|refine ld r9 ?_|refine ld iM ?_|refine aq ?_|refine ah ?_|refine ptr ?_)<;>conv=>whnf)
   refine lR.sP (λh4 mD=>?_);refine mD.out.elim λJe ho=>ho.elim λJf ho=>ho.elim λJg ho=>ho.elim λJh ho=>ho.elim λJi ho=>ho.elim λJj ho=>?_;have zu:=ho.1;conv=>whnf
   refine dJ zu ?_;conv=>whnf
   rw[L5];exact⟨mD.ma.le,_,B3,rfl,ho.2⟩
  ·have L5:=hB.2;rw[hB.1]at lR;have r9:=lR.me.1;conv=>whnf
   repeat' ((first|refine ld r9 ?_|refine aq ?_|refine ah ?_|refine ptr ?_)<;>conv=>whnf)
   refine zo _ M h3 (ig.le L4) (λh4 Je Jf Jg Jh Ji Jj B4 l4 Gz ON OO=>?_);refine lR.ma.cell.elim λZO hc=>hc.elim λt3 hc=>?_;have s7:=hc.1;have ZP:ZO.length=7:=by obtain⟨_,_,_,_,_,_,rfl,_⟩:=hc.2;rfl
   conv=>whnf
   refine Ag (l4 _ _ s7) ([.slice p u.J.length cc,.slice q u.methods.length d]++nI Je Jf Jg Jh Ji Jj M++[.bool true,.int .i64 res.2.2]) (by simp[ZP]) (m4 (by simp) (by rw[ZP];rfl)) (λh5 e5 g5=>?_);have S6:XM h h5 bx [.slice p u.J.length cc,.slice q u.methods.length d] u M true res.2.2 B4:=XM.again Gz ON OO L4 l4 s7 ZM g5 (λb hb=>by rw[e5];simp only[Heap.set,hb,if_false]) iw;conv=>whnf
   refine S6.Q0 (λh6 Pe=>?_);conv=>whnf
   refine ah ?_;conv=>whnf
   refine Pe.sP (λh7 L7=>?_);refine L7.out.elim λJe ho=>ho.elim λJf ho=>ho.elim λJg ho=>ho.elim λJh ho=>ho.elim λJi ho=>ho.elim λJj ho=>?_;have zu:=ho.1;conv=>whnf
   refine dJ zu ?_;conv=>whnf
   rw[L5];exact⟨L7.ma.le,_,B4,rfl,ho.2⟩
  ·refine hC.elim λk hC=>?_;have hk:=hC.1;have L5:=hC.2.2.2;have dW:=LZ k hk.1 hk.2;rw[hC.2.1,hC.2.2.1]at lR;have r9:=lR.me.1;have iM:=lR.me.2.1;conv=>whnf
   refine ld r9 ?_;conv=>whnf
   refine ld iM ?_;conv=>whnf
   refine gI hk.1 ?_;conv=>whnf
   refine ld iM ?_;conv=>whnf
   repeat' ((first|exact trivial|apply T_|refine wT _ M h3 (ig.le L4) (λh4 Je Jf Jg Jh Ji Jj B4 l4 Gz ON OO=>?_))<;>conv=>whnf)
   refine ec ([.slice p u.J.length cc,.slice q u.methods.length d]++nI Je Jf Jg Jh Ji Jj M++[.bool false,.int .i64 0]) rfl (λZQ h5 mz ee5 l5 g5=>?_);have S7:∀ b∈B4,h b=none:=λb hb=>by
    cases hh:h b with
    | none=>rfl
    | some o=>have:=OO b hb;rw[L4 b o hh]at this;cases this
   have S6:XM h h5 ZQ [.slice p u.J.length cc,.slice q u.methods.length d] u M false 0 B4:=XM.made Gz ON S7 (y_ L4 l4) mz l5 g5 iw;have L8:=CN S6 hT.1 k (by have:=hI.len;omega) (by have:=hI.len;omega) (by omega) (by rw[hI.low k hk.1 hk.2];have:=hT.1.1;omega) (λg hg=>(hI.iN g hg).1) Gv;rw[dW]at L8;conv=>whnf
   refine aC L8 (λv h6 hh=>?_);refine hh.elim λB6 hh=>?_;have Pe:XM h h6 ZQ [.slice p u.J.length cc,.slice q u.methods.length d] u (cK u k M) false 0 B6:=hh.1;have w9:=Pe.me.1;conv=>whnf
   refine ld w9 ?_;conv=>whnf
   refine ah ?_;conv=>whnf
   refine Pe.sP (λh7 L7=>?_);refine L7.out.elim λJe ho=>ho.elim λJf ho=>ho.elim λJg ho=>ho.elim λJh ho=>ho.elim λJi ho=>ho.elim λJj ho=>?_;have zu:=ho.1;conv=>whnf
   refine dJ zu ?_;conv=>whnf
   rw[L5];exact⟨L7.ma.le,_,B6,rfl,ho.2⟩
theorem ED (h:Heap):bI prog 112 [] h λv h'=>h.le h'/\∃ p c B,v=.slice p 7 c/\eN mA 2 h' v (iX 7) B/\Nd B/\∀ b∈B,h b=none:=by
 refine bZ au func112 VH VI rfl ?_;conv=>whnf
 refine ec [] rfl (λb0 h1 tZ e0 l1 g0=>?_);conv=>whnf
 refine fh [1,2] [] (λs:Nat × Heap × Option Addr × Nat × List Nat=>s.1<=7/\Acc mA 2 h s.2.1 (.slice s.2.2.1 s.1 s.2.2.2.1) (iX s.1) s.2.2.2.2 []) (λs=>7-s.1)
  (λs=>([.v (.slice s.2.2.1 s.1 s.2.2.2.1),.v (.int .i64 ((s.1:Int)+1))],[],s.2.1))
  (0,h1,some ⟨b0,0,none⟩,0,[b0]) ⟨by omega,Acc.Gx l1 tZ g0 (by simp) (λ_=>by simp) (by simp) (by simp)⟩ rfl ?_
 rintro⟨i,h2,pp,cp,B⟩ ⟨hi7,ac⟩;simp only at hi7 ac ⊢;conv=>whnf
 apply ax<;>intro g;all_goals conv=>whnf
 ·refine aj (oV _ _) ?_;conv=>whnf
  refine ec [.bool false,.int .i64 ((i:Int)+1)] rfl (λb h3 hb hh l3 hg=>?_);conv=>whnf
  refine vg jP Ad (a:=qm ((i:Int)+1)) (Bi:=[b]) ac l3 ⟨_,rfl,jC (vs:=[bR ⟨false,(i:Int)+1⟩]) (t:=31) (by simp[bR]) rfl (by rw[hg];rfl)⟩ (λa=>by simp only[X_,List.count_nil];split<;>omega) (by simpa using hb) rfl rfl rfl rfl (by rw[nS];simp;omega) (by rw[nS];omega) ?_;intro p' c' h4 B' HJ hk;rw[nS,<-CD]at HJ;rw[nS];conv=>whnf
  refine ah ?_;conv=>whnf
  exact dm (i+1,h4,p',c',B') ⟨by omega,HJ⟩ (by simp only;omega) rfl
 ·have hi6:i=7:=by omega
  subst hi6;exact⟨ac.le,_,_,B,rfl,ac.own,by have:=ac.nd;simpa using this,λb hb=>ac.fr b (by simp[hb])⟩
theorem xM {K:Value->Heap->Prop} {E:List PanicEntry->Heap->Prop} (h:Heap) (hK:∀ h' p c B,h.le h'->eN mA 2 h' (.slice p 7 c) (iX 7) B->Nd B->(∀ b∈B,h b=none)->K (.slice p 7 c) h'):iF prog 112 [] h K E:=cX (ED h) (λv h' hh=>by
 obtain⟨l1,p,c,B,rfl,own,nd,fr⟩:=hh;exact⟨l1,hK h' p c B l1 own nd fr⟩)
theorem Nd.two {A B:List Nat} (ha:Nd A) (hb:Nd B) (hd:∀ b∈B,b ∉ A):Nd (A++B):=by
 intro a;have e1:=ha a;have e2:=hb a;simp only[Y_];by_cases hm:a∈B
 ·have:=List.count_eq_zero.2 (hd a hm);omega
 ·have:=List.count_eq_zero.2 hm;omega
theorem gv {h h':Heap} (hl:h.le h') {b:Nat} (hb:h' b=none):h b=none:=by
 cases hh:h b with
 | none=>rfl
 | some o=>rw[hl b o hh]at hb;cases hb
theorem lE {h1 hx:Heap} {G:List Nat} (fW:∀ b∈G,∃ o,h1 b=some o) (hl:h1.le hx) {b:Nat} (hb:hx b=none):b ∉ G:=λhm=>by
 obtain⟨o,ho⟩:=fW b hm;rw[hl b o ho]at hb;cases hb
theorem eN.Ad {h:Heap} {v:Value} {l:List Ob} {B:List Nat} (ho:eN mA 2 h v l B):∀ b∈B,∃ o,h b=some o:=ho.in Go.Proofs.Ad
theorem wU {h:Heap} {v w:Value} {l k:List Vl} {A B:List Nat} (ha:cj h v l A) (hb:cj h w k B):∀ b∈A++B,∃ o,h b=some o:=λb hx=>(u_.1 hx).elim (ha.in b) (hb.in b)
theorem vH (u:aO) {h h1 h2 hf:Heap} {p1 p2 p3:Option Addr} {c1 n2 c2 n3 c3 b5 b7:Nat} {B1 B2 B3:List Nat} {t5 t7:TypeId} (hm:(aV u 0).locals<=3) (o1:eN mA 2 h1 (.slice p1 7 c1) (iX 7) B1) (l1:h1.le hf) (o2:cj h2 (.slice p2 n2 c2) (gO u 0 []).locals B2) (o3:cj h2 (.slice p3 n3 c3) [] B3) (l2:h2.le hf)
  (g7:hf b7=some (.cells #[.int .i64 0,.int .i64 0,.slice p2 n2 c2,.slice p3 n3 c3] t7 (0,0))) (g5:hf b5=some (.cells #[] t5 (0,0))) (n1:Nd B1) (Q1:Nd (B2++B3)) (d1:∀ b∈B2++B3,b ∉ B1) (d2:b7 ∉ B1) (d3:b7 ∉ B2++B3) (d4:b5 ∉ B1) (d5:b5 ∉ B2++B3) (d6:b5≠b7)
  (f1:∀ b∈B1,h b=none) (f23:∀ b∈B2++B3,h b=none) (f7:h b7=none) (f5:h b5=none) (hl:h.le hf) :
  h.le hf/\∃ mc B,(Value.agg #[.slice p1 7 c1,.slice (some ⟨b7,0,none⟩) 1 1,.slice (some ⟨b5,0,none⟩) 0 0,.int .i64 0,.int .i64 0,.bool false,.int .i64 0])=.agg ⟨mc⟩/\gN hf mc (qM u) B/\Nd B/\∀ b∈B,h b=none:=by
 have gz:eN qf 4 hf (.slice (some ⟨b7,0,none⟩) 1 1) (qM u).ag ([b7]++(B2++B3)) :=
  ⟨[[.int .i64 0,.int .i64 0,.slice p2 n2 c2,.slice p3 n3 c3]],[b7],B2++B3,jC (t:=t7) (by simp) rfl (by rw[g7];rfl),Rows.one ⟨_,_,B2,B3,rfl,by
   have:=o2.aJ (cR.of_le l2 _);simp only[gO,List.length_nil,Nat.sub_zero,List.nil_append]at this;exact this,o3.aJ (cR.of_le l2 _),rfl⟩,rfl⟩
 refine⟨hl,_,B1++([b7]++(B2++B3))++[b5],rfl,⟨_,_,_,B1,[b7]++(B2++B3),[b5],rfl,o1.aJ jP (cR.of_le l1 _),gz,dX g5,rfl⟩,?_,λb hb=>?_⟩
 ·refine Nd.two (Nd.two n1 (Nd.two (λa=>by simp only[X_,List.count_nil];split<;>omega) Q1 (λb hb hx=>?_)) (λb hb=>?_)) (λa=>by simp only[X_,List.count_nil];split<;>omega) (λb hb hx=>?_)
  ·rw[V_.1 hx]at hb;exact d3 hb
  ·rcases u_.1 hb with hb|hb
   ·rw[V_.1 hb];exact d2
   ·exact d1 b hb
  ·rw[V_.1 hb]at hx;simp only[u_,V_]at hx d5;rcases hx with hx|hx|hx
   ·exact d4 hx
   ·exact d6 hx
   ·exact d5 hx
 ·simp only[u_,V_]at hb f23;rcases hb with (hb|rfl|hb)|rfl
  ·exact f1 b hb
  ·exact f7
  ·exact f23 b hb
  ·exact f5
theorem zv {h1 hx:Heap} {a b:Nat} {o:Obj} (ha:h1 a=some o) (hl:h1.le hx) (hb:hx b=none):a≠b:=λe=>by
 subst e;rw[hl a o ha]at hb;cases hb
theorem GA (us:List Value) (u:aO) (h:Heap) (hu:dG h us u) (hT:cz u) :
  bI prog 58 [.agg ⟨us⟩] h λv h'=>h.le h'/\∃ mc B,v=.agg ⟨mc⟩/\gN h' mc (qM u) B/\Nd B/\∀ b∈B,h b=none:=by
 have iw:=hu;obtain⟨p,cc,q,d,rfl,hcs,fM,ji,hl2⟩:=hu.form;have eP:=wF _ u h iw;rw[fk hT]at eP;have h0:0<=(0:Int)/\(0:Int) < u.methods.length:=by have:=hT.2.1.1;omega
 have mX:=(hT.aV h0).1.2.2.2.2.1;have cH:oP h (.slice none 0 0) []:=⟨by simp,by simp,none,0,rfl,by simp,.inl rfl⟩
 refine bZ au func58 F58 abA rfl ?_;conv=>whnf
 refine aj eP ?_;conv=>whnf
 repeat' ((first|exact vH u mX o1 (y_ l2 (y_ l7 l5)) o2 o3 (y_ l7 l5) (l5 _ _ g7) g5 n1 Q1 (λb hb=>lE o1.Ad (z_ _) (f23 b hb)) (lE o1.Ad l2 Ez) (lE (wU o2 o3) (z_ _) Ez) (lE o1.Ad (y_ l2 l7) mz) (lE (wU o2 o3) l7 mz) (zv g7 (z_ _) mz).symm f1 (λb hb=>gv l1 (f23 b hb)) (gv (y_ l1 l2) Ez) (gv (y_ l1 (y_ l2 l7)) mz) (y_ l1 (y_ l2 (y_ l7 l5)))|exact vH u mX o1 (y_ l2 (y_ l5 l7)) o2 o3 (y_ l5 l7) g7 (l7 _ _ g5) n1 Q1 (λb hb=>lE o1.Ad (z_ _) (f23 b hb)) (lE o1.Ad (y_ l2 l5) Ez) (lE (wU o2 o3) l5 Ez) (lE o1.Ad l2 mz) (lE (wU o2 o3) (z_ _) mz) (zv g5 (z_ _) Ez) f1 (λb hb=>gv l1 (f23 b hb)) (gv (y_ l1 (y_ l2 l5)) Ez) (gv (y_ l1 l2) mz) (y_ l1 (y_ l2 (y_ l5 l7)))|exact vH u mX o1 (y_ l5 (y_ l2 l7)) o2 o3 l7 g7 (l7 _ _ (l2 _ _ g5)) n1 Q1 (λb hb=>lE o1.Ad l5 (f23 b hb)) (lE o1.Ad (y_ l5 l2) Ez) (lE (wU o2 o3) (z_ _) Ez) (lE o1.Ad (z_ _) mz) (λhx=>zv g5 (z_ _) (f23 _ hx) rfl) (zv g5 l2 Ez) f1 (λb hb=>gv (y_ l1 l5) (f23 b hb)) (gv (y_ l1 (y_ l5 l2)) Ez) (gv l1 mz) (y_ l1 (y_ l5 (y_ l2 l7)))|exact vH u mX o1 (y_ l2 l7) o2 o3 l7 g7 (l7 _ _ (l2 _ _ (l1 _ _ g5))) n1 Q1 (λb hb=>lE o1.Ad (z_ _) (f23 b hb)) (lE o1.Ad l2 Ez) (lE (wU o2 o3) (z_ _) Ez) (λhx=>zv g5 (z_ _) (f1 _ hx) rfl) (λhx=>zv g5 l1 (f23 _ hx) rfl) (zv g5 (y_ l1 l2) Ez) (λb hb=>gv l5 (f1 b hb)) (λb hb=>gv (y_ l5 l1) (f23 b hb)) (gv (y_ l5 (y_ l1 l2)) Ez) mz (y_ l5 (y_ l1 (y_ l2 l7)))|exact trivial|apply T_|refine xM h (λh1 p1 c1 B1 l1 o1 n1 f1=>?_)|refine xM h5 (λh1 p1 c1 B1 l1 o1 n1 f1=>?_)|refine nu _ u 0 [] _ h1 (iw.le l1) h0 (cH.le l1) (by simp) (by omega) (λh2 p2 n2 c2 p3 n3 c3 B2 B3 l2 o2 o3 Q1 f23=>?_)|refine nu _ u 0 [] _ h5 (iw.le (y_ l1 l5)) h0 (cH.le (y_ l1 l5)) (by simp) (by omega) (λh2 p2 n2 c2 p3 n3 c3 B2 B3 l2 o2 o3 Q1 f23=>?_)|refine nu _ u 0 [] _ h1 (iw.le (y_ l5 l1)) h0 (cH.le (y_ l5 l1)) (by simp) (by omega) (λh2 p2 n2 c2 p3 n3 c3 B2 B3 l2 o2 o3 Q1 f23=>?_)|refine ec [] rfl (λb5 h5 mz e5 l5 g5=>?_)|refine ec [.int .i64 0,.int .i64 0,.slice p2 n2 c2,.slice p3 n3 c3] rfl (λb7 h7 Ez e7 l7 g7=>?_))<;>conv=>whnf)
theorem nD {objs o':List Ob} {f f':bQ} {v:Vl} (h:dH objs f v=.ok (o',f')):o'=objs:=by
 unfold dH at h;split at h
 ·simp only[Except.ok.injEq,Prod.mk.injEq]at h;exact h.1.symm
 ·cases h
theorem CR {u:aO} {x:ez} {aR:List Vl} {objs o':List Ob} {f f':bQ} (h:bD u x aR objs f=.ok (o',f')):o'.length=objs.length\/o'.length=objs.length+1:=by
 unfold bD at h;simp only[sZ]at h;repeat' split at h
 all_goals first
  | (have:=nD h;subst this;simp;done)
  | (simp only[Except.ok.injEq,Prod.mk.injEq]at h;obtain⟨rfl,_⟩:=h;simp[ij];done)
  | (cases h;done)
theorem Jk {u:aO} {x:ez} {aR:List Vl} {objs o':List Ob} {f g:bQ} {said gP:List Int} {kq:Bool} (h:gG u x aR objs f said=.ok (o',g,gP,kq)) :
  (o'.length=objs.length\/o'.length=objs.length+1)/\(gP.length=said.length\/gP.length=said.length+1):=by
 have hp:∀ {f1:bQ} {v:Vl},fA objs f1 said v=.ok (o',g,gP,kq)->(o'.length=objs.length\/o'.length=objs.length+1)/\(gP.length=said.length\/gP.length=said.length+1):=by
  intro f1 v h;obtain⟨o,g1,h1,e⟩:=sM h;simp only[Prod.mk.injEq]at e;obtain⟨rfl,rfl,rfl,rfl⟩:=e;rw[nD h1];simp
 have hs:∀ {s:List Int} {f1:bQ} {b:Bool},(s.length=said.length\/s.length=said.length+1)->(Except.ok (objs,f1,s,b):Sk)=.ok (o',g,gP,kq)->(o'.length=objs.length\/o'.length=objs.length+1)/\(gP.length=said.length\/gP.length=said.length+1):=by
  intro s f1 b hb e;simp only[Except.ok.injEq,Prod.mk.injEq]at e;obtain⟨rfl,rfl,rfl,rfl⟩:=e;exact⟨.inl rfl,hb⟩
 unfold gG at h;simp only at h;by_cases k1:x.kind=1
 ·rw[if_pos k1]at h;exact hp h
 rw[if_neg k1]at h;by_cases k2:x.kind=2
 ·rw[if_pos k2]at h;exact hp h
 rw[if_neg k2]at h;by_cases k3:x.kind=3
 ·rw[if_pos k3]at h;exact hp h
 rw[if_neg k3]at h;by_cases k4:x.kind=4
 ·rw[if_pos k4]at h;exact hs (.inl rfl) h
 rw[if_neg k4]at h;by_cases k5:x.kind=5
 ·rw[if_pos k5]at h;exact hs (.inl rfl) h
 rw[if_neg k5]at h;by_cases k6:x.kind=6
 ·rw[if_pos k6]at h;split at h
  ·exact hp h
  ·cases h
 rw[if_neg k6]at h;by_cases k7:x.kind=7
 ·rw[if_pos k7]at h;split at h
  ·exact hp h
  ·cases h
 rw[if_neg k7]at h;by_cases k8:x.kind=8
 ·rw[if_pos k8]at h;exact hs (.inl rfl) h
 rw[if_neg k8]at h;by_cases k9:x.kind=9
 ·rw[if_pos k9]at h;exact hs (.inl rfl) h
 rw[if_neg k9]at h;by_cases A2:x.kind=10
 ·rw[if_pos A2]at h;exact hs (.inl rfl) h
 rw[if_neg A2]at h;by_cases JY:x.kind=11
 ·rw[if_pos JY]at h;exact hs (.inl rfl) h
 rw[if_neg JY]at h;by_cases A3:x.kind=24
 ·rw[if_pos A3]at h;exact hs (.inr (by simp)) h
 rw[if_neg A3]at h;split at h
 ·rename_i o1 g1 h1;simp only[Except.ok.injEq,Prod.mk.injEq]at h;obtain⟨rfl,rfl,rfl,rfl⟩:=h;exact⟨CR h1,.inl rfl⟩
 ·cases h
theorem nW {u:aO} {n:Int} {M:bM}:(cK u n M).objs=M.objs/\(cK u n M).said=M.said:=by unfold cK;split<;>exact⟨rfl,rfl⟩
theorem zw {u:aO} {to:Int} {aR:List Vl} {M M':bM} (h:jA u to aR M=.ok M'):M'.objs=M.objs/\M'.said=M.said:=by
 unfold jA at h;split at h
 ·cases h
 ·simp only[Except.ok.injEq]at h;subst h;exact⟨rfl,rfl⟩
theorem L9 {u:aO} {fs:List bQ} {f:bQ} {M M':bM} (h:kD u fs f M=.ok M'):(M'.objs.length=M.objs.length\/M'.objs.length=M.objs.length+1)/\(M'.said.length=M.said.length\/M'.said.length=M.said.length+1):=by
 have same:∀ {N:bM},N.objs=M.objs/\N.said=M.said->(N.objs.length=M.objs.length\/N.objs.length=M.objs.length+1)/\(N.said.length=M.said.length\/N.said.length=M.said.length+1):=λhN=>by rw[hN.1,hN.2];simp
 unfold kD at h;simp only at h;split at h
 ·cases h
 ·split at h
  ·cases h
  ·split at h
   ·unfold gW at h;simp only[rE]at h;repeat' split at h
    all_goals first
     | (cases h;done)
     | (have hc:=zw h;exact same (N:=M') ⟨hc.1,hc.2⟩)
     | (simp only[Except.ok.injEq]at h;subst h;first|exact same ⟨rfl,rfl⟩|exact same nW)
   ·split at h
    ·cases h
    ·rename_i objs g said kq hm;simp only[Except.ok.injEq]at h;subst h;exact Jk hm
def runM (u:aO):Nat->bM
 | 0=>qM u
 | n+1=>fB u (runM u n)
structure ZR (u:aO) (n:Nat) (M:bM):Prop where
 ok:oh u M
 link:nh u M.ag
 le:M.steps<=n
 eq:M.fin=0->M.steps=n
 said:(M.said.length:Int)<=M.steps
 objs:(M.objs.length:Int)<=7+M.steps
theorem zx {u:aO} {M:bM}:(fB u M=M/\(M.fin≠0\/200<=M.steps\/200<=M.said.length\/207<=M.objs.length\/M.ag=[])) \/
  ((fB u M).steps=M.steps+1/\((fB u M).objs.length=M.objs.length\/(fB u M).objs.length=M.objs.length+1)/\((fB u M).said.length=M.said.length\/(fB u M).said.length=M.said.length+1)/\M.fin=0):=by
 by_cases hg:M.fin≠0\/200<=M.steps\/200<=M.said.length\/207<=M.objs.length
 ·left
  refine⟨?_,by omega⟩;unfold fB;rw[if_pos hg]
 ·rcases List.eq_nil_or_concat M.ag with hn|⟨fs,f,hf⟩
  ·left
   refine⟨?_,by simp[hn]⟩;unfold fB;rw[if_neg hg,hn];rfl
  ·right
   rw[List.concat_eq_append]at hf;rw[CQ hf hg];unfold oY;cases hd:kD u fs f M with
   | ok M' =>
    have:=L9 hd;exact⟨rfl,this.1,this.2,by omega⟩
   | error k =>
    by_cases hk:k=0
    ·simp[hk];omega
    ·simp[hk,nW];omega
theorem S8 {u:aO} (hu:cz u):∀ n:Nat,n<=200->ZR u n (runM u n)
 | 0,_=>by
  obtain⟨h1,h2⟩:=SG hu;exact⟨h1,h2,by simp[runM,qM],by simp[runM,qM],by simp[runM,qM],by simp[runM,qM,iX]⟩
 | n+1,hn=>by
  have ih:=S8 hu n (by omega);obtain⟨h1,h2⟩:=OU hu ih.ok ih.link;have hle:=ih.le;have hs:=ih.said;have ho:=ih.objs;show ZR u (n+1) (fB u (runM u n));rcases zx (u:=u) (M:=runM u n)with ⟨e,hx⟩|⟨e1,e2,e3,e4⟩
  ·rw[e];refine⟨ih.ok,ih.link,by omega,λhf=>?_,hs,ho⟩;have heq:=ih.eq hf;have eB:=ih.ok.steps;have gz:(runM u n).ag≠[]:=by
    rcases ih.ok.fin with h1|h1|h1
    ·exact h1.2.1
    ·omega
    ·omega
   rcases hx with hx|hx|hx|hx|hx
   ·exact absurd hf hx
   ·omega
   ·omega
   ·omega
   ·exact absurd hx gz
  ·have heq:=ih.eq e4;exact⟨h1,h2,by omega,λ_=>by omega,by omega,by omega⟩
def lT:bM:=⟨[],[],[],0,0,cU⟩
def Jl (u:aO) (steps:Int):Prop:=cz u/\0<=steps/\steps<=200
def HZ (u:aO) (steps:Int) (R:bM):Prop:=(Jl u steps->R=runM u steps.toNat)/\(¬Jl u steps->R=lT)
theorem EE (u:aO) (steps:Int):∃ R,HZ u steps R:=by
 by_cases h:Jl u steps
 ·exact⟨runM u steps.toNat,λ_=>rfl,λhn=>absurd h hn⟩
 ·exact⟨lT,λhp=>absurd hp h,λ_=>rfl⟩
theorem uu (h:Heap):gN h [.slice none 0 0,.slice none 0 0,.slice none 0 0,.int .i64 0,.int .i64 0,.bool false,.int .i64 0] lT [] :=
 ⟨_,_,_,[],[],[],rfl,⟨[],[],[],⟨by simp,.inl ⟨rfl,rfl,rfl⟩⟩,.nil,rfl⟩,⟨[],[],[],⟨by simp,.inl ⟨rfl,rfl,rfl⟩⟩,.nil,rfl⟩,⟨by simp[lT],.inl ⟨rfl,rfl,rfl⟩⟩,rfl⟩
theorem oh.small {u:aO} (hT:cz u) {M:bM} (h:oh u M):Small M:=by
 refine⟨by have:=h.len;omega,by have:=h.nf;omega,by have:=h.kG;omega,λo ho=>?_,λf hf=>?_⟩
 ·rcases(h.objs o ho).2 with ⟨_,h2⟩|⟨_,h2,h3⟩
  ·omega
  ·have:=eH hT.1 h2;omega
 ·have hF:=h.iN f hf;have:=(hT.aV hF.1).1.2.2.2.2.1;have:=hF.2.2.1;have:=hF.2.2.2.1;omega
def Pf (h:Heap) (M:bM) (v:Value) (h':Heap):Prop:=h.le h'/\∃ mc B,v=.agg ⟨mc⟩/\gN h' mc M B/\Nd B/\∀ b∈B,h b=none
theorem Br {u:aO} {i:Nat} (h:(runM u i).fin≠0):∀ k,runM u (i+k)=runM u i
 | 0=>rfl
 | k+1=>by
  show fB u (runM u (i+k))=_;rw[Br h k];unfold fB;rw[if_pos (.inl h)]
theorem zy (us:List Value) (u:aO) (steps:Int) (h:Heap) (hu:dG h us u) (R:bM) (EF:HZ u steps R):bI prog 27 [.agg ⟨us⟩,.int .i64 steps] h (Pf h R):=by
 have iw:=hu;obtain⟨p,cc,q,d,rfl,hcs,fM,ji,hl2⟩:=hu.form;have eP:=wF _ u h iw;have bad:¬Jl u steps->Pf h R (.agg #[.slice none 0 0,.slice none 0 0,.slice none 0 0,.int .i64 0,.int .i64 0,.bool false,.int .i64 0]) h:=λhb=>by
  rw[EF.2 hb];exact⟨z_ h,_,[],rfl,uu h,λ_=>by simp,by simp⟩
 have OW:=EF.1;refine bZ au func27 F27 aa8 rfl ?_;conv=>whnf
 refine aj eP ?_;conv=>whnf
 apply aT<;>intro g1;all_goals conv=>whnf
 ·exact bad (λhx=>g1 hx.1)
 refine aj (dP _ _ _ _) ?_;conv=>whnf
 apply aT<;>intro g2;all_goals conv=>whnf
 ·exact bad (λhx=>g2 hx.2)
 have hP:Jl u steps:=⟨g1,g2⟩
 have hR:=OW hP;refine aC (GA _ u h iw g1) (λv h1 hh=>?_);refine hh.2.elim λmc0 iD=>iD.elim λB0 iD=>?_;have hv:=iD.1;subst hv;refine iD.2.1.nI.elim λpo0 hf=>hf.elim λco0 hf=>hf.elim λpf0 hf=>hf.elim λcf0 hf=>hf.elim λps0 hf=>hf.elim λcs0 hf=>?_;subst hf;conv=>whnf
 refine fh [1,2,4,5,6] [2,4,5] (λs:Nat × Heap × (Option Addr × Nat) × (Option Addr × Nat) × (Option Addr × Nat) × List Nat=>(s.1:Int)<=steps/\h.le s.2.1/\gN s.2.1 (nI s.2.2.1.1 s.2.2.1.2 s.2.2.2.1.1 s.2.2.2.1.2 s.2.2.2.2.1.1 s.2.2.2.2.1.2 (runM u s.1)) (runM u s.1) s.2.2.2.2.2/\Nd s.2.2.2.2.2/\∀ b∈s.2.2.2.2.2,h b=none) (λs=>steps.toNat-s.1)
  (λs=>([.v (.int .i64 steps),.l 2 0,.l 4 0,.l 5 0,.v (.int .i64 s.1)],
   [some [.slice p u.J.length cc,.slice q u.methods.length d],some [.slice none 0 0,.slice none 0 0,.slice none 0 0,.int .i64 0,.int .i64 0,.bool false,.int .i64 0],some (nI s.2.2.1.1 s.2.2.1.2 s.2.2.2.1.1 s.2.2.2.1.2 s.2.2.2.2.1.1 s.2.2.2.2.1.2 (runM u s.1))],s.2.1))
  (0,h1,(po0,co0),(pf0,cf0),(ps0,cs0),B0) ⟨by simp;omega,hh.1,iD.2.1,iD.2.2⟩ rfl ?_
 rintro⟨i,h2,⟨po,co⟩,⟨pf,cf⟩,⟨ps,cs⟩,B⟩ ⟨hi,hle,own,nd,fr⟩;simp only at hi hle own nd fr ⊢;unfold nI ay;conv=>whnf
 apply ax<;>intro g;all_goals conv=>whnf
 ·apply ax<;>intro gf;all_goals conv=>whnf
  ·have hI:=S8 g1 i (by omega);have RL:=own.read (hI.ok.small g1);have gz:∃ fs f,(runM u i).ag=fs++[f]:=by
    rcases List.eq_nil_or_concat (runM u i).ag with e|⟨gs,gl,e⟩
    ·rcases hI.ok.fin with h1|h1|h1
     ·exact absurd e h1.2.1
     ·omega
     ·omega
    ·exact⟨gs,gl,by simpa using e⟩
   refine gz.elim λfs gz=>gz.elim λf gz=>?_;have hsu:oY u fs f (runM u i)=runM u (i+1):=by
    refine(CQ gz ?_).symm;have:=hI.eq gf;have:=hI.said;have:=hI.objs;omega
   have gM:=Bq _ _ u (runM u i) h2 fs f RL (iw.le hle) g1 hI.ok gz gf;rw[hsu]at gM;refine aC gM (λv h3 hh=>?_);refine hh.2.elim λZO kB=>kB.elim λB3 kB=>?_;have hv:=kB.1;subst hv;have ZS:gN h3 ZO (runM u (i+1)) B3:=kB.2.1;refine ZS.nI.elim λpo3 hf=>hf.elim λZo hf=>hf.elim λpf3 hf=>hf.elim λcf3 hf=>hf.elim λps3 hf=>hf.elim λcs3 hf=>?_;subst hf;conv=>whnf
   refine ah ?_;conv=>whnf
   exact dm (i+1,h3,(po3,Zo),(pf3,cf3),(ps3,cs3),B3) ⟨by simp only;omega,y_ hle hh.1,ZS,kB.2.2.1,λb hb=>gv hle (kB.2.2.2 b hb)⟩ (by simp only;omega) rfl
  ·have eB:=Br gf (steps.toNat-i);have mB:i+(steps.toNat-i)=steps.toNat:=by omega
   rw[mB]at eB;rw[hR,eB];exact⟨hle,_,B,rfl,own,nd,fr⟩
 ·have mB:i=steps.toNat:=by omega
  subst mB;rw[hR];exact⟨hle,_,B,rfl,own,nd,fr⟩
theorem nE {h:Heap} {b c:Nat} {l:List Int} {rest:List Value} {t:TypeId} {fz:Nat × Nat} (hb:h b=some (.cells (l.map (Value.int .i64)++rest).toArray t fz)) (hl:l.length<=140737488351232) (hc:l.length<=c) (hi:∀ t∈l,cY t):dy h (.slice (some ⟨b,0,none⟩) l.length c) l:=by
 refine⟨hl,_,c,rfl,hc,.inr ⟨b,0,rfl,λi x hx=>?_⟩⟩;obtain⟨bV,rfl⟩:=List.getElem?_eq_some_iff.1 hx;refine⟨[.int .i64 l[i]],?_,rfl,hi _ (x_ bV)⟩;have e:rd h b (0+i*1)=some (.int .i64 l[i]):=bJ hb (by rw[List.getElem?_append_left (by simp;omega)];simp[bV]);simp only[fj,e]
theorem fm {h:Heap} {p:Option Addr} {n c:Nat} {l:List Int} {B:List Nat} (ho:dR h (.slice p n c) l B) (hl:l.length<=140737488351232) (hi:∀ t∈l,cY t):n=l.length/\dy h (.slice p l.length c) l:=by
 obtain⟨_,⟨he,hn,_⟩|⟨b,c',rest,t,he,hc,hb,_,_⟩⟩:=ho
 ·simp only[Z_]at he;obtain⟨rfl,rfl,rfl⟩:=he;have:l=[]:=by simpa using hn
  subst this;exact⟨rfl,by simp,none,0,rfl,by simp,.inl rfl⟩
 ·simp only[Z_]at he;obtain⟨rfl,rfl,rfl⟩:=he;rw[ek]at hb;refine⟨by simp,nE hb hl (by simpa using hc) hi⟩
theorem iP (h:Heap) (p:Option Addr) (c:Nat):dy h (.slice p 0 c) []:=⟨by simp,p,c,rfl,by simp,.inl rfl⟩
theorem Jm {el:TypeId} {h h1:Heap} {b:Nat} {t:TypeId} {l:List Int} {m:Nat} {K:Value->Heap->Prop} (hl:h.le h1) (hg:h1 b=some (.cells #[] t (0,0))) (hb:h b=none) (hm:m=l.length) (hs:l.length<=1000000) (hi:∀ t∈l,cY t)
  (hk:∀ p' c' h2 B',h.le h2->dR h2 (.slice p' l.length c') l B'->dy h2 (.slice p' l.length c') l->(∀ b∈B',h b=none)->K (.slice p' l.length c') h2):App 8 1 [.int .i64 0] el h1 (some ⟨b,0,none⟩) 0 0 m (l.map (Value.int .i64)) K:=by
 refine Bm hl hg hb (ek l).symm (by rw[hm];simp) (by simpa using hs) ?_;intro p' c' h2 B' k1 k2 k3;have tn:(l.map bN).length=l.length:=by simp
 rw[tn]at k2 ⊢;exact hk p' c' h2 B' k1 k2 (fm k2 (by omega) hi).2 k3
theorem EG {h h':Heap} (hl:h.le h') {p:Option Addr} {n c:Nat} {l:List Int} {K:List Value->Prop} (hr:dy h (.slice p n c) l) (hk:K (l.map (Value.int .i64))):Ua h' p (n*1) K:=rA (hr.le hl) hk
theorem uv {l:List Int} {h:Heap} {v:Value} (hr:dy h v l):∀ t∈l,cY t:=by
 obtain⟨_,p,c,rfl,_,h3⟩:=hr;rcases h3 with rfl|⟨b,off,_,hx⟩
 ·intro t ht;cases ht
 ·intro t ht;obtain⟨i,hi,rfl⟩:=List.mem_iff_getElem.1 ht;obtain⟨vs,_,_,h2⟩:=hx i l[i] (by simp[hi]);exact h2
theorem dy.at {h:Heap} {p:Option Addr} {n c:Nat} {l:List Int} (hr:dy h (.slice p n c) l) {i:Nat} (hi:i < l.length):∃ b off,p=some ⟨b,off,none⟩/\rd h b (off+i*1)=some (.int .i64 l[i]):=by
 obtain⟨b,off,vs,hq,e1,e2,_⟩:=hr.get hi;subst e2;exact⟨b,off,hq,by simpa using aE e1 (i:=0) rfl⟩
theorem dy.first {h:Heap} {p:Option Addr} {n c:Nat} {l:List Int} (hr:dy h (.slice p n c) l) {m:Nat} (hm:m<=l.length):dy h (.slice p m c) (l.take m):=by
 obtain⟨h1,p',c',he,h2,h3⟩:=hr;simp only[Z_]at he;obtain⟨rfl,rfl,rfl⟩:=he;have gE:(l.take m).length=m:=by simp;omega
 refine⟨by omega,p,c,by rw[gE],by omega,?_⟩;rcases h3 with rfl|⟨b,off,rfl,hx⟩
 ·exact .inl (by simp)
 ·refine .inr ⟨b,off,rfl,λi x hi=>hx i x ?_⟩;rw[List.getElem?_take]at hi;split at hi
  ·exact hi
  ·cases hi
def mh:dY:=⟨false,[],[]⟩
theorem kM (h:Heap):bI prog 53 [] h λv h'=>h.le h'/\∃ b1 b2,v=.agg #[.bool false,.slice (some ⟨b1,0,none⟩) 0 0,.slice (some ⟨b2,0,none⟩) 0 0]:=by
 refine bZ au func53 F53 abw rfl ?_;conv=>whnf
 refine ec [] rfl (λb1 h1 gL e1 l1 g1=>?_);conv=>whnf
 refine ec [] rfl (λb2 h2 fO e2 l2 g2=>?_);conv=>whnf
 exact⟨y_ l1 l2,b1,b2,rfl⟩
structure tL (h h':Heap) (v1:Value) (l1:List Int) (B1:List Nat) (v2:Value) (l2:List Int) (B2:List Nat):Prop where
 le:h.le h'
 o1:dR h' v1 l1 B1
 o2:dR h' v2 l2 B2
 nd:Nd (B1++B2)
 fr:∀ b∈B1++B2,h b=none
theorem tL.start (h:Heap):tL h h (.slice none 0 0) [] [] (.slice none 0 0) [] []:=⟨z_ h,⟨by simp,.inl ⟨rfl,rfl,rfl⟩⟩,⟨by simp,.inl ⟨rfl,rfl,rfl⟩⟩,λ_=>by simp,by simp⟩
theorem tL.swap {h h':Heap} {v1 v2:Value} {l1 l2:List Int} {B1 B2:List Nat} (s:tL h h' v1 l1 B1 v2 l2 B2):tL h h' v2 l2 B2 v1 l1 B1:=⟨s.le,s.o2,s.o1,s.nd.perm λa=>by simp only[Y_];omega,λb hb=>s.fr b (by simp at hb ⊢;grind)⟩
theorem tL.Ma {h h':Heap} {v2:Value} {l2:List Int} {B2:List Nat} {t:TypeId} {vs:List Value} {K:Nat->Heap->Prop} (s:tL h h' (.slice none 0 0) [] [] v2 l2 B2) (hv:vs=[]) (hk:∀ b h2,tL h h2 (.slice (some ⟨b,0,none⟩) 0 0) [] [b] v2 l2 B2->K b h2):JQ h' vs t K:=by
 subst hv;refine ec [] rfl (λb h2 hb e l g=>hk b h2 ⟨y_ s.le l,dX g,s.o2.aJ (cR.of_le l _),?_,λx hx=>?_⟩)
 ·refine Nd.two (λa=>by simp only[X_,List.count_nil];split<;>omega) s.o2.nd (λx hx hm=>?_);rw[V_.1 hm]at hx;obtain⟨o,ho⟩:=s.o2.in b hx;rw[hb]at ho;cases ho
 ·rcases u_.1 hx with hx|hx
  ·rw[V_.1 hx];exact gv s.le hb
  ·exact s.fr x (by simp[hx])
theorem tL.acU {h h':Heap} {v1:Value} {l1:List Int} {B1:List Nat} {t:TypeId} {vs:List Value} {K:Nat->Heap->Prop} (s:tL h h' v1 l1 B1 (.slice none 0 0) [] []) (hv:vs=[]) (hk:∀ b h2,tL h h2 v1 l1 B1 (.slice (some ⟨b,0,none⟩) 0 0) [] [b]->K b h2):JQ h' vs t K :=
 s.swap.Ma hv (λb h2 s2=>hk b h2 s2.swap)
theorem tL.EH {h h':Heap} {p:Option Addr} {c m:Nat} {l l2:List Int} {B1 B2:List Nat} {v2:Value} {el:TypeId} {K:Value->Heap->Prop} (s:tL h h' (.slice p 0 c) [] B1 v2 l2 B2) (hm:m=l.length) (hs:l.length<=1000000)
  (hk:∀ p' c' h2 B',tL h h2 (.slice p' l.length c') l B' v2 l2 B2->K (.slice p' l.length c') h2):App 8 1 [.int .i64 0] el h' p 0 c m (l.map (Value.int .i64)) K:=by
 refine dA (h0:=h) (xs:=[]) (ys:=l.map bN) (B:=B1) s.o1 (λb hb=>s.fr b (by simp[hb])) s.le (ek l).symm (by rw[hm];simp) (λy hy=>by obtain⟨w,_,rfl⟩:=List.mem_map.1 hy;rfl) (dS l) rfl (by simp at hs ⊢;omega) (by simp at hs ⊢;omega) ?_;intro v' h2 B' k1 k2 k3 k4 k5;rw[List.nil_append]at k2;obtain⟨p',c',rfl,_⟩:=cr.form k2;have tn:(l.map bN).length=l.length:=by simp
 rw[tn]at k2 ⊢;have hd:∀ b∈B2,b ∉ B1:=λb hb hx=>by
  have:=s.nd b;have:=W_.2 hb;have:=W_.2 hx;simp only[Y_]at *;omega
 refine hk p' c' h2 B' ⟨k1,k2,s.o2.aJ λb hb o ho=>by rw[k4 b (hd b hb) (by rw[ho];simp)];exact ho,Nd.two k2.nd s.o2.nd (λb hb hx=>?_),λb hb=>?_⟩
 ·rcases k5 b hx with hy|hy
  ·exact hd b hb hy
  ·obtain⟨o,ho⟩:=s.o2.in b hb;rw[hy]at ho;cases ho
 ·rcases u_.1 hb with hb|hb
  ·exact k3 b hb
  ·exact s.fr b (by simp[hb])
theorem tL.GB {h h':Heap} {p:Option Addr} {c m:Nat} {l l1:List Int} {B1 B2:List Nat} {v1:Value} {el:TypeId} {K:Value->Heap->Prop} (s:tL h h' v1 l1 B1 (.slice p 0 c) [] B2) (hm:m=l.length) (hs:l.length<=1000000)
  (hk:∀ p' c' h2 B',tL h h2 v1 l1 B1 (.slice p' l.length c') l B'->K (.slice p' l.length c') h2):App 8 1 [.int .i64 0] el h' p 0 c m (l.map (Value.int .i64)) K :=
 s.swap.EH hm hs (λp' c' h2 B' s2=>hk p' c' h2 B' s2.swap)
theorem wV (told:Bool) (lp kp:Option Addr) (lc kc:Nat) (ll kl:List Int) (h:Heap) (h1:dy h (.slice lp ll.length lc) ll) (h2:dy h (.slice kp kl.length kc) kl) (b1:ll.length<=1000000) (b2:kl.length<=1000000) :
  bI prog 152 [.agg #[.bool told,.slice lp ll.length lc,.slice kp kl.length kc]] h λv h'=>∃ p1 c1 p2 c2 B1 B2,v=.agg #[.bool told,.slice p1 ll.length c1,.slice p2 kl.length c2]/\tL h h' (.slice p1 ll.length c1) ll B1 (.slice p2 kl.length c2) kl B2:=by
 have s:=tL.start h;refine bZ au func152 WM WN rfl ?_;conv=>whnf
 repeat' ((first|exact trivial|exact⟨_,_,_,_,_,_,rfl,s⟩|exact⟨_,_,_,_,_,_,rfl,s.swap⟩|apply T_|refine EG s.le h1 ?_|refine EG s.le h2 ?_|refine s.EH (l:=ll) rfl b1 (λp' c' h9 B' s=>?_)|refine s.GB (l:=ll) rfl b1 (λp' c' h9 B' s=>?_)|refine s.EH (l:=kl) rfl b2 (λp' c' h9 B' s=>?_)|refine s.GB (l:=kl) rfl b2 (λp' c' h9 B' s=>?_)|refine s.Ma rfl (λb h9 s=>?_)|refine s.acU rfl (λb h9 s=>?_))<;>conv=>whnf)
def jn (cs:List eD):List Int->List Int->Bool
 | a::l,b::r=>iy cs a b&&jn cs l r
 | _,_=>true
def vI (cs:List eD) (cP types:List Int):Bool:=decide (types.length<=cP.length)&&jn cs (cP.drop (cP.length-types.length)) types
def iA (cs:List eD) (s:dY) (types:List Int):Option dY:=if vI cs s.stack types=true then some {s with stack:=s.stack.take (s.stack.length-types.length)}else none
def jo (r:Option dY) (t:Int):Option dY:=match r with
 | none=>none
 | some s=>if t=0\/4<=s.stack.length then none else some {s with stack:=s.stack++[t]}
def vJ (h:Heap) (v:Value) (r:Option dY):Prop:=match r with
 | none=>∃ a p1 n1 c1 p2 n2 c2,v=.tuple #[.agg #[.bool a,.slice p1 n1 c1,.slice p2 n2 c2],.bool false]
 | some s=>∃ p1 c1 p2 c2,v=.tuple #[.agg #[.bool s.told,.slice p1 s.locals.length c1,.slice p2 s.stack.length c2],.bool true]/\dy h (.slice p1 s.locals.length c1) s.locals/\dy h (.slice p2 s.stack.length c2) s.stack
theorem uw {cs:List eD} {l r:List Int} {i:Nat} (hl:i < l.length) (hr:i < r.length):jn cs (l.drop i) (r.drop i)=(iy cs l[i] r[i]&&jn cs (l.drop (i+1)) (r.drop (i+1))):=by
 rw[List.drop_eq_getElem_cons hl,List.drop_eq_getElem_cons hr,jn]
theorem EI (p:Option Addr) (n c:Nat) (cs:List eD) (s:dY) (lp kp tp:Option Addr) (lc kc tc:Nat) (types:List Int) (h:Heap) (hcs:fP h (.slice p n c) cs) (ok:cI cs) (h1:dy h (.slice lp s.locals.length lc) s.locals) (h2:dy h (.slice kp s.stack.length kc) s.stack) (ht:dy h (.slice tp types.length tc) types)
  (hv:∀ t∈s.stack,t < 8+cs.length) (hw:∀ t∈types,t < 8+cs.length) :
  bI prog 179 [.slice p n c,.agg #[.bool s.told,.slice lp s.locals.length lc,.slice kp s.stack.length kc],.slice tp types.length tc] h λv h'=>h'=h/\vJ h v (iA cs s types):=by
 obtain⟨told,ll,cP⟩:=s;simp only at h1 h2 hv ⊢;have l1:=h1.1;have l2:=h2.1;have l3:=ht.1;have gF:cP.length<=kc:=by
  obtain⟨_,_,he,gF,_⟩:=h2.len;simp only[Z_,true_and]at he;obtain⟨_,rfl⟩:=he;exact gF
 have e:iA cs ⟨told,ll,cP⟩ types=if vI cs cP types=true then some ⟨told,ll,cP.take (cP.length-types.length)⟩else none:=rfl
 rw[e];have no:vI cs cP types=false->vJ h (.tuple #[.agg #[.bool told,.slice lp ll.length lc,.slice kp cP.length kc],.bool false]) (if vI cs cP types=true then some ⟨told,ll,cP.take (cP.length-types.length)⟩else none):=λhx=>by
  rw[if_neg (by rw[hx];simp)];exact⟨told,_,_,_,_,_,_,rfl⟩
 refine bZ au func179 Xt Xu rfl ?_;conv=>whnf
 refine ah ?_;conv=>whnf
 apply ax<;>intro g;all_goals conv=>whnf
 ·exact⟨rfl,no (by simp[vI];omega)⟩
 obtain⟨m,hm⟩:∃ m:Nat,m=cP.length-types.length:=⟨_,rfl⟩
 have hmi:(cP.length:Int)-types.length=m:=by omega
 rw[<-hm];rw[hmi];rw[<-hm]at no;have ZT:vI cs cP types=jn cs ((cP.drop m).drop 0) (types.drop 0):=by
  unfold vI;rw[<-hm];simp;omega
 refine fh [0,2,4,6,8,9] [4,6] (λi:Nat=>i<=types.length/\vI cs cP types=jn cs ((cP.drop m).drop i) (types.drop i)) (λi=>types.length-i)
  (λi=>([.v (.slice p n c),.v (.slice tp types.length tc),.l 4 0,.l 6 0,.v (.int .i64 m),.v (.int .i64 i)],[some [.bool told,.slice lp ll.length lc,.slice kp cP.length kc],some [.bool false,.slice none 0 0,.slice none 0 0]],h)) 0 ⟨by omega,ZT⟩ rfl ?_
 rintro i ⟨hi,hg⟩;conv=>whnf
 apply ax<;>intro g2;all_goals conv=>whnf
 ·have bV:i < types.length:=by omega
  have Fk:m+i < cP.length:=by omega
  have f1:=h2.at Fk;have f2:=ht.at bV;obtain⟨b1,o1,q1,a1⟩:=f1;obtain⟨b2,o2,q2,a2⟩:=f2;have Uu:((m:Int)+i).toNat=m+i:=by omega
  have a1':rd h b1 (o1+((m:Int)+i).toNat*1)=some (.int .i64 cP[m+i]):=by rw[Uu];exact a1
  have hl2:=qe p n c cs cP[m+i] types[i] h hcs ok (hv _ (x_ Fk)) (hw _ (x_ bV));have eB:=uw (cs:=cs) (l:=cP.drop m) (r:=types) (i:=i) (by simp;omega) bV;have Ht:(cP.drop m)[i]'(by simp;omega)=cP[m+i]:=by simp
  rw[Ht]at eB;rw[eB]at hg;repeat' ((first|refine ah ?_|refine aq ?_|refine aG q1 ?_|refine aG q2 ?_|refine ld a1' ?_|refine ld a2 ?_|refine aK hl2 ?_)<;>conv=>whnf)
  apply cJ<;>intro g3;all_goals conv=>whnf
  ·exact⟨rfl,no (by rw[hg,g3];rfl)⟩
  ·refine ah ?_;conv=>whnf
   refine dm (i+1) ⟨by omega,?_⟩ (by omega) rfl;rw[hg,g3];rfl
 ·have mB:i=types.length:=by omega
  subst mB;have acV:vI cs cP types=true:=by rw[hg,List.drop_length];unfold jn;split<;>simp_all
  refine aq ?_;conv=>whnf
  rw[if_pos acV];have gE:(cP.take m).length=m:=by simp;omega
  refine⟨rfl,lp,lc,kp,kc,?_,h1,?_⟩
  ·show _=Value.tuple #[.agg #[.bool told,.slice lp ll.length lc,.slice kp (cP.take m).length kc],.bool true];rw[gE];rfl
  ·show dy h (.slice kp (cP.take m).length kc) (cP.take m);rw[gE];exact h2.first (by omega)
theorem Bu (a:Bool) (p1 p2:Option Addr) (n1 c1 n2 c2:Nat) (b:Bool) (r:Option dY) (t:Int) (h:Heap) (hr:vJ h (.tuple #[.agg #[.bool a,.slice p1 n1 c1,.slice p2 n2 c2],.bool b]) r) (ht:cY t) (hs:∀ s,r=some s->s.stack.length<=1000) :
  bI prog 203 [.agg #[.bool a,.slice p1 n1 c1,.slice p2 n2 c2],.int .i64 t,.bool b] h λv h'=>h.le h'/\vJ h' v (jo r t):=by
 cases r with
 | none =>
  obtain⟨_,_,_,_,_,_,_,e⟩:=hr;simp only[Value.tuple.injEq,Array.mk.injEq,List.cons.injEq,Value.agg.injEq,Value.bool.injEq,Z_,and_true]at e;obtain⟨_,rfl⟩:=e;refine bZ au func203 R1 Qr rfl ?_;conv=>whnf
  exact⟨z_ h,_,_,_,_,_,_,_,rfl⟩
 | some s =>
  obtain⟨q1,d1,q2,d2,e,h1,h2⟩:=hr;simp only[Value.tuple.injEq,Array.mk.injEq,List.cons.injEq,Value.agg.injEq,Value.bool.injEq,Z_,and_true]at e;obtain⟨⟨rfl,⟨rfl,rfl,rfl⟩,⟨rfl,rfl,rfl⟩⟩,rfl⟩:=e;have kL:=hs s rfl;have i2:=uv h2;have e:jo (some s) t=if t=0\/4<=s.stack.length then none else some {s with stack:=s.stack++[t]}:=rfl
  rw[e];refine bZ au func203 R1 Qr rfl ?_;conv=>whnf
  apply ax<;>intro g;all_goals conv=>whnf
  ·rw[if_pos (.inl g)];exact⟨z_ h,_,_,_,_,_,_,_,rfl⟩
  apply ax<;>intro g2;all_goals conv=>whnf
  ·rw[if_pos (.inr (by omega))];exact⟨z_ h,_,_,_,_,_,_,_,rfl⟩
  ·rw[if_neg (by omega)];refine ec [] rfl (λb3 h3 s7 e3 l3 g3=>?_);conv=>whnf
   refine EG l3 h2 ?_;conv=>whnf
   refine Jm l3 g3 s7 rfl (by omega) i2 (λp4 c4 h4 B4 l4 o4 r4 n4=>?_);conv=>whnf
   have hlm:(s.stack.map bN).length=s.stack.length:=by simp
   refine dA (h0:=h) (xs:=s.stack.map bN) (ys:=[bN t]) (B:=B4) o4 n4 l4 rfl rfl (by simp[bN]) rfl rfl (by simp;omega) (by simp;omega) ?_;intro v' h5 B5 k1 k2 k3 k4 k5;have uE:dR h5 v' (s.stack++[t]) B5:=by unfold dR;rw[List.map_append];exact k2
   have hf:=uE.form;obtain⟨p6,c6,rfl,_⟩:=hf;have hi:∀ x∈s.stack++[t],cY x:=λx hx=>by
    simp only[u_,V_]at hx;rcases hx with hx|rfl
    ·exact i2 x hx
    ·exact ht
   have ZU:((s.stack++[t]).map bN).length=(s.stack++[t]).length:=by simp
   have r6:=(fm uE (by simp;omega) hi).2;rw[ZU];conv=>whnf
   exact⟨k1,_,_,_,_,rfl,h1.le k1,r6⟩
theorem Jn (k:Int) (h:Heap):Pure prog 204 [.int .i64 k] h (.tuple #[.int .i64 (if k=0 then 3 else 4),.int .i64 (if k=0 then 1 else 8)]):=by
 refine iC au func204 Yb Yc rfl ?_;conv=>whnf
 apply ax<;>intro g;all_goals conv=>whnf
 ·rw[if_pos g,if_pos g];exact⟨rfl,rfl⟩
 ·rw[if_neg g,if_neg g];exact⟨rfl,rfl⟩
def qv (cs:List eD) (i:ez) (s:dY):Option dY :=
 if i.kind=1 then jo (some s) 1
 else if i.kind=2 then jo (some s) 2
 else if i.kind=3 then jo (some s) (s.locals.getD i.a.toNat 0)
 else if i.kind=4 then (match s.stack.getLast? with
  | none=>none
  | some t=>some {s with locals:=s.locals.set i.a.toNat t,stack:=s.stack.dropLast})
 else if i.kind=5 then iA cs s [0]
 else if i.kind=6 then (match s.stack.getLast? with
  | none=>none
  | some t=>jo (some s) t)
 else if i.kind=7 then jo (iA cs s [1,1]) 1
 else if i.kind=8\/i.kind=9 then iA cs s [1,1]
 else if i.kind=10 then iA cs s [8]
 else if i.kind=24 then iA cs s [1]
 else if i.kind=23 then iA cs s [9]
 else some s
theorem vJ.form {h:Heap} {v:Value} {r:Option dY} (hr:vJ h v r):∃ a p1 n1 c1 p2 n2 c2 b,v=.tuple #[.agg #[.bool a,.slice p1 n1 c1,.slice p2 n2 c2],.bool b]:=by
 cases r with
 | none=>obtain⟨a,p1,n1,c1,p2,n2,c2,e⟩:=hr;exact⟨a,p1,n1,c1,p2,n2,c2,false,e⟩
 | some s=>obtain⟨p1,c1,p2,c2,e,_⟩:=hr;exact⟨_,_,_,_,_,_,_,_,e⟩
theorem Mb {K:Value->Heap->Prop} {E:List PanicEntry->Heap->Prop} {p:Option Addr} {n c:Nat} {cs:List eD} {s:dY} {lp kp tp:Option Addr} {lc kc tc nt:Nat} {types:List Int} {h:Heap} (hcs:fP h (.slice p n c) cs) (ok:cI cs) (h1:dy h (.slice lp s.locals.length lc) s.locals) (h2:dy h (.slice kp s.stack.length kc) s.stack) (hn:nt=types.length) (ht:dy h (.slice tp types.length tc) types)
  (hv:∀ t∈s.stack,t < 8+cs.length) (hw:∀ t∈types,t < 8+cs.length) (hK:∀ a p1 n1 c1 p2 n2 c2 b,vJ h (.tuple #[.agg #[.bool a,.slice p1 n1 c1,.slice p2 n2 c2],.bool b]) (iA cs s types)->K (.tuple #[.agg #[.bool a,.slice p1 n1 c1,.slice p2 n2 c2],.bool b]) h) :
  Vc.Call prog 179 [.slice p n c,.agg #[.bool s.told,.slice lp s.locals.length lc,.slice kp s.stack.length kc],.slice tp nt tc] h K E:=by
 subst hn;refine aC (EI p n c cs s lp kp tp lc kc tc types h hcs ok h1 h2 ht hv hw) (λv h' hh=>?_);obtain⟨rfl,hs⟩:=hh;obtain⟨a,p1,n1,c1,p2,n2,c2,b,rfl⟩:=hs.form;exact hK a p1 n1 c1 p2 n2 c2 b hs
theorem qw {K:Value->Heap->Prop} {E:List PanicEntry->Heap->Prop} {a:Bool} {p1 p2:Option Addr} {n1 c1 n2 c2:Nat} {b:Bool} {r:Option dY} {t:Int} {h:Heap} (hr:vJ h (.tuple #[.agg #[.bool a,.slice p1 n1 c1,.slice p2 n2 c2],.bool b]) r) (ht:cY t) (hs:∀ s,r=some s->s.stack.length<=1000)
  (hK:∀ h' a p1 n1 c1 p2 n2 c2 b,h.le h'->vJ h' (.tuple #[.agg #[.bool a,.slice p1 n1 c1,.slice p2 n2 c2],.bool b]) (jo r t)->K (.tuple #[.agg #[.bool a,.slice p1 n1 c1,.slice p2 n2 c2],.bool b]) h') :
  Vc.Call prog 203 [.agg #[.bool a,.slice p1 n1 c1,.slice p2 n2 c2],.int .i64 t,.bool b] h K E:=by
 refine aC (Bu a p1 p2 n1 c1 n2 c2 b r t h hr ht hs) (λv h' hh=>?_);obtain⟨hl,hs⟩:=hh;obtain⟨a,p1,n1,c1,p2,n2,c2,b,rfl⟩:=hs.form;exact hK h' a p1 n1 c1 p2 n2 c2 b hl hs
theorem GC {K:Value->Heap->Prop} {E:List PanicEntry->Heap->Prop} {p:Option Addr} {n c:Nat} {cs:List eD} {s:dY} {lp kp tp:Option Addr} {lc kc tc nt:Nat} {types:List Int} {h:Heap} (hcs:fP h (.slice p n c) cs) (ok:cI cs) (h1:dy h (.slice lp s.locals.length lc) s.locals) (h2:dy h (.slice kp s.stack.length kc) s.stack) (hn:nt=types.length) (ht:dy h (.slice tp types.length tc) types)
  (hv:∀ t∈s.stack,t < 8+cs.length) (hw:∀ t∈types,t < 8+cs.length) (hK:∀ a p1 n1 c1 p2 n2 c2 b,vJ h (.tuple #[.agg #[.bool a,.slice p1 n1 c1,.slice p2 n2 c2],.bool b]) (iA cs s types)->K (.tuple #[.agg #[.bool a,.slice p1 n1 c1,.slice p2 n2 c2],.bool b]) h) :
  iF prog 179 [.slice p n c,.agg #[.bool s.told,.slice lp s.locals.length lc,.slice kp s.stack.length kc],.slice tp nt tc] h K E:=by
 subst hn;refine cX (EI p n c cs s lp kp tp lc kc tc types h hcs ok h1 h2 ht hv hw) (λv h' hh=>?_);obtain⟨rfl,hs⟩:=hh;obtain⟨a,p1,n1,c1,p2,n2,c2,b,rfl⟩:=hs.form;exact⟨z_ _,hK a p1 n1 c1 p2 n2 c2 b hs⟩
theorem vK {K:Value->Heap->Prop} {E:List PanicEntry->Heap->Prop} {a:Bool} {p1 p2:Option Addr} {n1 c1 n2 c2:Nat} {b:Bool} {r:Option dY} {t:Int} {h:Heap} (hr:vJ h (.tuple #[.agg #[.bool a,.slice p1 n1 c1,.slice p2 n2 c2],.bool b]) r) (ht:cY t) (hs:∀ s,r=some s->s.stack.length<=1000)
  (hK:∀ h' a p1 n1 c1 p2 n2 c2 b,h.le h'->vJ h' (.tuple #[.agg #[.bool a,.slice p1 n1 c1,.slice p2 n2 c2],.bool b]) (jo r t)->K (.tuple #[.agg #[.bool a,.slice p1 n1 c1,.slice p2 n2 c2],.bool b]) h') :
  iF prog 203 [.agg #[.bool a,.slice p1 n1 c1,.slice p2 n2 c2],.int .i64 t,.bool b] h K E:=by
 refine cX (Bu a p1 p2 n1 c1 n2 c2 b r t h hr ht hs) (λv h' hh=>?_);obtain⟨hl,hs⟩:=hh;obtain⟨a,p1,n1,c1,p2,n2,c2,b,rfl⟩:=hs.form;exact⟨hl,hK h' a p1 n1 c1 p2 n2 c2 b hl hs⟩
theorem Mc {cs:List eD} {s r:dY} {types:List Int} (h:iA cs s types=some r):r.stack.length<=s.stack.length/\r.locals=s.locals/\r.told=s.told:=by
 unfold iA at h;split at h
 ·simp only[v_]at h;subst h;simp<;>omega
 ·cases h
def tq (h:Heap) (s:dY) (lp kp:Option Addr) (lc kc:Nat):Prop:=dy h (.slice lp s.locals.length lc) s.locals/\dy h (.slice kp s.stack.length kc) s.stack
theorem tq.le {h h':Heap} {s:dY} {lp kp:Option Addr} {lc kc:Nat} (hl:h.le h') (hi:tq h s lp kp lc kc):tq h' s lp kp lc kc:=⟨hi.1.le hl,hi.2.le hl⟩
theorem tq.out {h:Heap} {s:dY} {lp kp:Option Addr} {lc kc:Nat} (hi:tq h s lp kp lc kc):vJ h (.tuple #[.agg #[.bool s.told,.slice lp s.locals.length lc,.slice kp s.stack.length kc],.bool true]) (some s):=⟨lp,lc,kp,kc,rfl,hi.1,hi.2⟩
theorem vL {h:Heap} {b:Nat} {types:List Int} {t:TypeId} (hg:h b=some (.cells (types.map (Value.int .i64)).toArray t (0,0))) (hl:types.length<=1000) (hi:∀ x∈types,0<=x/\x<=1000):dy h (.slice (some ⟨b,0,none⟩) types.length types.length) types :=
 nE (rest:=[]) (by rw[List.append_nil];exact hg) (by omega) (Nat.le_refl _) (λx hx=>by have:=hi x hx;unfold cY;omega)
theorem je {cs:List eD} {s:dY} {types:List Int} (hs:s.stack.length<=1000):∀ r,iA cs s types=some r->r.stack.length<=1000:=λr hr=>by have:=Mc hr;omega
theorem GD (p:Option Addr) (n c:Nat) (cs:List eD) (kind a b:Int) (s:dY) (lp kp:Option Addr) (lc kc:Nat) (B1 B2:List Nat) (h0 h:Heap) (hcs:fP h (.slice p n c) cs) (ok:cI cs) (eB:tL h0 h (.slice lp s.locals.length lc) s.locals B1 (.slice kp s.stack.length kc) s.stack B2) (hI:tq h s lp kp lc kc)
  (hv:∀ t∈s.stack,t < 8+cs.length) (mX:kind=3\/kind=4->0<=a/\a < s.locals.length) (ji:s.locals.length<=1000) (hl2:s.stack.length<=1000) :
  bI prog 182 [.slice p n c,.agg #[.int .i64 kind,.int .i64 a,.int .i64 b],.agg #[.bool s.told,.slice lp s.locals.length lc,.slice kp s.stack.length kc]] h λv h'=>h0.le h'/\vJ h' v (qv cs ⟨kind,a,b⟩ s):=by
 have hle:=eB.le;have JS:=ok.1;have i2:=uv hI.2;have i1:=uv hI.1;have gF:s.stack.length<=kc:=by
  obtain⟨_,_,he,gF,_⟩:=hI.2.len;simp only[Z_,true_and]at he;obtain⟨_,rfl⟩:=he;exact gF
 have ux:∀(types:List Int),types.length<=1000->(∀ x∈types,0<=x/\x < 10)->∀(h1:Heap) (bt:Nat) (ty:TypeId) (K:Value->Heap->Prop) (E:List PanicEntry->Heap->Prop) (nt:Nat),h.le h1->h1 bt=some (.cells (types.map (Value.int .i64)).toArray ty (0,0))->nt=types.length ->
   (∀ a p1 n1 c1 p2 n2 c2 b,vJ h1 (.tuple #[.agg #[.bool a,.slice p1 n1 c1,.slice p2 n2 c2],.bool b]) (iA cs s types)->K (.tuple #[.agg #[.bool a,.slice p1 n1 c1,.slice p2 n2 c2],.bool b]) h1) ->
   Vc.Call prog 179 [.slice p n c,.agg #[.bool s.told,.slice lp s.locals.length lc,.slice kp s.stack.length kc],.slice (some ⟨bt,0,none⟩) nt nt] h1 K E:=by
  intro types hl hx h1 bt ty K E nt l1 g1 hn hK;subst hn;exact Mb (hcs.le l1 (λ_ _ hx=>hx.le l1)) ok (hI.1.le l1) (hI.2.le l1) rfl (vL g1 hl (λx xB=>by have:=hx x xB;omega)) hv (λx xB=>by have:=hx x xB;omega) hK
 refine bZ au func182 Xx Xy rfl ?_;conv=>whnf
 by_cases k1:kind=1
 ·subst k1;conv=>whnf
  refine qw hI.out (by unfold cY;omega) (λr hr=>by simp only[v_]at hr;subst hr;exact hl2) (λh1 a p1 n1 c1 p2 n2 c2 b l1 hs=>?_);conv=>whnf
  exact⟨y_ hle l1,hs⟩
 refine cM k1 ?_;conv=>whnf
 by_cases k2:kind=2
 ·subst k2;conv=>whnf
  refine qw hI.out (by unfold cY;omega) (λr hr=>by simp only[v_]at hr;subst hr;exact hl2) (λh1 a p1 n1 c1 p2 n2 c2 b l1 hs=>?_);conv=>whnf
  exact⟨y_ hle l1,hs⟩
 refine cM k2 ?_;conv=>whnf
 by_cases k3:kind=3
 ·subst k3;have ha:=mX (.inl rfl);have bV:a.toNat < s.locals.length:=by omega
  have f1:=hI.1.at bV;obtain⟨b1,o1,q1,a1⟩:=f1;have S3:s.locals.getD a.toNat 0=s.locals[a.toNat]:=by simp[bV]
  have Fl:=i1 _ (x_ bV);rw[<-S3]at a1 Fl;conv=>whnf
  repeat' ((first|exact trivial|apply T_|refine aq ?_|refine aG q1 ?_|refine ld a1 ?_|refine vK hI.out Fl (λr hr=>by simp only[v_]at hr;subst hr;exact hl2) (λh1 a p1 n1 c1 p2 n2 c2 b l1 hs=>?_))<;>conv=>whnf)
  all_goals first|exact y_ hle l1|exact hs
 refine cM k3 ?_;conv=>whnf
 by_cases k4:kind=4
 ·subst k4;have e4:qv cs ⟨4,a,b⟩ s=(match s.stack.getLast? with
   | none=>none
   | some t=>some {s with locals:=s.locals.set a.toNat t,stack:=s.stack.dropLast}):=rfl
  rw[e4];have ha:=mX (.inr rfl);conv=>whnf
  rcases List.eq_nil_or_concat s.stack with hn|⟨l,t,hn⟩
  ·refine gI (by rw[hn];rfl) ?_;conv=>whnf
   refine⟨hle,?_⟩;rw[hn];exact⟨_,_,_,_,_,_,_,rfl⟩
  ·rw[List.concat_eq_append]at hn;have Dl:s.stack.length=l.length+1:=by rw[hn];simp
   have GF:l.length < s.stack.length:=by omega
   have f2:=hI.2.at GF;obtain⟨b2,o2,q2,a2⟩:=f2;have Ht:s.stack[l.length]=t:=by simp[hn]
   rw[Ht]at a2;have Uu:((s.stack.length:Int)-1).toNat=l.length:=by omega
   have a2':rd h b2 (o2+((s.stack.length:Int)-1).toNat*1)=some (.int .i64 t):=by rw[Uu];exact a2
   have bV:a.toNat < s.locals.length:=by omega
   have tX:s.locals=s.locals.take a.toNat++s.locals[a.toNat]::s.locals.drop (a.toNat+1):=by simp
   have S9:cr 1 h (.slice lp s.locals.length lc) ((s.locals.take a.toNat).map bN++bN s.locals[a.toNat]::(s.locals.drop (a.toNat+1)).map bN) B1:=by
    have:=eB.o1;unfold dR at this;rw[show s.locals.map bN=(s.locals.take a.toNat).map bN++bN s.locals[a.toNat]::(s.locals.drop (a.toNat+1)).map bN by rw[<-List.map_cons,<-List.map_append,<-tX]]at this;exact this
   obtain⟨bl,cl,pre,post,tl,hq,td,fV,_,hB,fe⟩:=S9.at;simp only[Z_]at hq;obtain⟨rfl,_,rfl⟩:=hq;have lF:pre.length=a.toNat:=by rw[fV];simp;omega
   have hdn:bl ∉ B2:=λhx=>by
    have:=eB.nd bl;have:=W_.2 hx;simp only[hB,Y_,X_,List.count_nil,beq_self_eq_true,if_true]at *;omega
   have OX:(s.stack.getLast? : Option Int)=some t:=by rw[hn];simp
   have hdl:s.stack.dropLast=l:=by rw[hn];simp
   refine bH ?_;conv=>whnf
   repeat' ((first|exact trivial|apply T_|refine ah ?_|refine aq ?_|refine aG q2 ?_|refine ptr ?_|refine ld a2' ?_)<;>conv=>whnf)
   all_goals
    refine Ag td (pre++bN t++post) (by simp[lF,bN]<;>omega) (m4 (x':=bN t) (by show 0+a.toNat*1=pre.length;omega) rfl) (λh5 e5 g5=>?_);conv=>whnf
    refine ah ?_;conv=>whnf
    refine aq ?_;conv=>whnf
    have Ny:h0.le h5:=by
     rw[e5];exact Heap.aP hle (eB.fr bl (by rw[hB];simp))
    have o5:dR h5 (.slice (some ⟨bl,0,none⟩) s.locals.length lc) (s.locals.set a.toNat t) B1:=by
     have:=fe h5 (bN t) g5 rfl;unfold dR;rw[show(s.locals.set a.toNat t).map bN=(s.locals.take a.toNat).map bN++bN t::(s.locals.drop (a.toNat+1)).map bN by rw[List.set_eq_take_append_cons_drop,if_pos bV,List.map_append,List.map_cons]];exact this
    have dj:cY t:=i2 t (by rw[hn];simp);have r5:=(fm o5 (by simp;omega) (λx hx=>by
     rcases List.mem_or_eq_of_mem_set hx with hx|rfl
     ·exact i1 x hx
     ·exact dj)).2
    have o6:dR h5 (.slice kp s.stack.length kc) s.stack B2:=eB.o2.aJ λb hb o ho=>by
     have:b≠bl:=by rintro rfl;exact hdn hb
     rw[e5];simp only[Heap.set,this,if_false];exact ho
    have r6:=(fm o6 (by omega) i2).2.first (m:=l.length) (by omega);have uD:s.stack.take l.length=l:=by rw[hn];simp
    rw[uD]at r6;refine⟨Ny,?_⟩;rw[OX,hdl];have I8:(s.locals.set a.toNat t).length=s.locals.length:=by simp
    refine⟨some ⟨bl,0,none⟩,lc,kp,kc,?_,r5,r6⟩;rw[I8,Uu]
 refine cM k4 ?_;conv=>whnf
 by_cases k5:kind=5
 ·subst k5;conv=>whnf
  refine ec [.int .i64 0] rfl (λb1 h1 gL e1 l1 g1=>?_);conv=>whnf
  refine ux [0] (by simp) (by simp) h1 b1 _ _ _ 1 l1 g1 rfl (λa p1 n1 c1 p2 n2 c2 b hs=>?_);conv=>whnf
  exact⟨y_ hle l1,hs⟩
 refine cM k5 ?_;conv=>whnf
 by_cases k6:kind=6
 ·subst k6;have e4:qv cs ⟨6,a,b⟩ s=(match s.stack.getLast? with
   | none=>none
   | some t=>jo (some s) t):=rfl
  rw[e4];conv=>whnf
  rcases List.eq_nil_or_concat s.stack with hn|⟨l,t,hn⟩
  ·refine gI (by rw[hn];rfl) ?_;conv=>whnf
   refine⟨hle,?_⟩;rw[hn];exact⟨_,_,_,_,_,_,_,rfl⟩
  ·rw[List.concat_eq_append]at hn;have Dl:s.stack.length=l.length+1:=by rw[hn];simp
   have GF:l.length < s.stack.length:=by omega
   have f2:=hI.2.at GF;obtain⟨b2,o2,q2,a2⟩:=f2;have Ht:s.stack[l.length]=t:=by simp[hn]
   rw[Ht]at a2;have Uu:((s.stack.length:Int)-1).toNat=l.length:=by omega
   have a2':rd h b2 (o2+((s.stack.length:Int)-1).toNat*1)=some (.int .i64 t):=by rw[Uu];exact a2
   have OX:(s.stack.getLast? : Option Int)=some t:=by rw[hn];simp
   have dj:cY t:=i2 t (by rw[hn];simp);rw[OX];refine bH ?_;conv=>whnf
   repeat' ((first|exact trivial|apply T_|refine ah ?_|refine aq ?_|refine aG q2 ?_|refine ld a2' ?_|refine vK hI.out dj (λr hr=>by simp only[v_]at hr;subst hr;exact hl2) (λh1 a p1 n1 c1 p2 n2 c2 b l1 hs=>?_))<;>conv=>whnf)
   all_goals first|exact y_ hle l1|exact hs
 refine cM k6 ?_;conv=>whnf
 by_cases k7:kind=7
 ·subst k7;conv=>whnf
  refine ec [.int .i64 1,.int .i64 1] rfl (λb1 h1 gL e1 l1 g1=>?_);conv=>whnf
  refine ux [1,1] (by simp) (by simp) h1 b1 _ _ _ 2 l1 g1 rfl (λa p1 n1 c1 p2 n2 c2 b hs=>?_);conv=>whnf
  refine qw hs (by unfold cY;omega) (je hl2) (λh2 a p1 n1 c1 p2 n2 c2 b l2 hs=>?_);conv=>whnf
  exact⟨y_ hle (y_ l1 l2),hs⟩
 refine cM k7 ?_;conv=>whnf
 by_cases k8:kind=8
 ·subst k8;conv=>whnf
  refine ec [.int .i64 1,.int .i64 1] rfl (λb1 h1 gL e1 l1 g1=>?_);conv=>whnf
  refine ux [1,1] (by simp) (by simp) h1 b1 _ _ _ 2 l1 g1 rfl (λa p1 n1 c1 p2 n2 c2 b hs=>?_);conv=>whnf
  exact⟨y_ hle l1,hs⟩
 refine cM k8 ?_;conv=>whnf
 by_cases k9:kind=9
 ·subst k9;conv=>whnf
  refine ec [.int .i64 1,.int .i64 1] rfl (λb1 h1 gL e1 l1 g1=>?_);conv=>whnf
  refine ux [1,1] (by simp) (by simp) h1 b1 _ _ _ 2 l1 g1 rfl (λa p1 n1 c1 p2 n2 c2 b hs=>?_);conv=>whnf
  exact⟨y_ hle l1,hs⟩
 refine cM k9 ?_;conv=>whnf
 by_cases A2:kind=10
 ·subst A2;conv=>whnf
  refine ec [.int .i64 8] rfl (λb1 h1 gL e1 l1 g1=>?_);conv=>whnf
  refine ux [8] (by simp) (by simp) h1 b1 _ _ _ 1 l1 g1 rfl (λa p1 n1 c1 p2 n2 c2 b hs=>?_);conv=>whnf
  exact⟨y_ hle l1,hs⟩
 refine cM A2 ?_;conv=>whnf
 by_cases A3:kind=24
 ·subst A3;conv=>whnf
  refine ec [.int .i64 1] rfl (λb1 h1 gL e1 l1 g1=>?_);conv=>whnf
  refine ux [1] (by simp) (by simp) h1 b1 _ _ _ 1 l1 g1 rfl (λa p1 n1 c1 p2 n2 c2 b hs=>?_);conv=>whnf
  exact⟨y_ hle l1,hs⟩
 refine cM A3 ?_;conv=>whnf
 by_cases Lw:kind=23
 ·subst Lw;conv=>whnf
  refine ec [.int .i64 9] rfl (λb1 h1 gL e1 l1 g1=>?_);conv=>whnf
  refine ux [9] (by simp) (by simp) h1 b1 _ _ _ 1 l1 g1 rfl (λa p1 n1 c1 p2 n2 c2 b hs=>?_);conv=>whnf
  exact⟨y_ hle l1,hs⟩
 refine cM Lw ?_;conv=>whnf
 have e9:qv cs ⟨kind,a,b⟩ s=some s:=by simp[qv,k1,k2,k3,k4,k5,k6,k7,k8,k9,A2,Lw,A3]
 rw[e9];exact⟨hle,hI.out⟩
theorem oZ {cs:List eD} (ok:cI cs):∀(k:Nat) {c:Int},c.toNat < k->c < cs.length->iS cs.length (dw cs c)
 | 0,c,h,_=>by omega
 | k+1,c,h,hl=>by
  by_cases h0:c<=0
  ·rw[fD h0];intro t ht;cases ht
  ·have hi:c.toNat < cs.length:=by omega
   have hc:=ok.2.2 c.toNat hi;have hs:=ok.bU (a:=c) (by omega) hl;rw[mI ok (by omega) hl];intro t ht;rcases u_.1 ht with ht|ht
   ·exact oZ ok k (c:=bG cs c) (by omega) (by omega) t ht
   ·have:jy cs c=cs[c.toNat].fields:=by simp[jy,hi]
    rw[this]at ht;exact hc.1 t ht
theorem gC {n t:Int} (h:dg n t):0 < t/\(t < 8\/t < 8+n):=by unfold dg at h;omega
theorem zz {K:Value->Heap->Prop} {E:List PanicEntry->Heap->Prop} {p:Option Addr} {n c:Nat} {cs:List eD} {x:Int} {h:Heap} (hcs:fP h (.slice p n c) cs) (ok:cI cs) (hx:0<=x/\x < cs.length)
  (hK:∀ h' p' c',h.le h'->dy h' (.slice p' (dw cs x).length c') (dw cs x)->K (.slice p' (dw cs x).length c') h'):iF prog 80 [.slice p n c,.int .i64 x] h K E :=
 cX (jJ (x.toNat+1) p n c cs x h hcs ok hx.1 hx.2 (by omega)) (λv h' hh=>by
  obtain⟨l1,B,own,_⟩:=hh;obtain⟨p',c',rfl,_⟩:=own.form;have hl:=eH ok hx.2;have hi:∀ t∈dw cs x,cY t:=λt ht=>by
   have:=gC (oZ ok (x.toNat+1) (by omega) hx.2 t ht);have:=ok.2.1;unfold cY;omega
  have hr:=fm own (by omega) hi;rw[hr.1];exact⟨l1,hK h' p' c' l1 hr.2⟩)
def zA (a:Int):Int:=if a=0 then 3 else 4
def oz (a:Int):Int:=if a=0 then 1 else 8
def wW (cs:List eD) (i:ez) (s:dY):Option dY :=
 if i.kind=12 then jo (some s) (8+i.a)
 else if i.kind=13 then jo (iA cs s [1]) (zA i.a)
 else if i.kind=14 then jo (match iA cs s [3]with
  | some r=>some r
  | none=>iA cs s [4]) 1
 else if i.kind=15 then jo (iA cs s [zA i.a,1]) (oz i.a)
 else if i.kind=16 then iA cs s [zA i.a,1,oz i.a]
 else if i.kind=17 then jo (iA cs s [8+i.a]) ((dw cs i.a).getD i.b.toNat 0)
 else if i.kind=18 then iA cs s [8+i.a,(dw cs i.a).getD i.b.toNat 0]
 else jo (iA cs s [8]) (8+i.a)
theorem GG (p:Option Addr) (n c:Nat) (cs:List eD) (kind a b:Int) (s:dY) (lp kp:Option Addr) (lc kc:Nat) (h:Heap) (hcs:fP h (.slice p n c) cs) (ok:cI cs) (hI:tq h s lp kp lc kc) (hv:∀ t∈s.stack,t < 8+cs.length) (hl2:s.stack.length<=1000)
  (hk:12<=kind/\kind<=19) (ha:0<=a/\a<=4) (hc:kind=12\/kind=17\/kind=18\/kind=19->a < cs.length) (hb:kind=17\/kind=18->0<=b/\b < (dw cs a).length) :
  bI prog 181 [.slice p n c,.agg #[.int .i64 kind,.int .i64 a,.int .i64 b],.agg #[.bool s.told,.slice lp s.locals.length lc,.slice kp s.stack.length kc]] h λv h'=>h.le h'/\vJ h' v (wW cs ⟨kind,a,b⟩ s):=by
 have JS:=ok.1;have zi:=ok.2.1;have ZV:∀ r,some s=some r->r.stack.length<=1000:=λr hr=>by simp only[v_]at hr;subst hr;exact hl2
 have NC:zA a=3\/zA a=4:=by unfold zA;split<;>simp
 have LH:oz a=1\/oz a=8:=by unfold oz;split<;>simp
 have GH:∀ {t:Int},0<=t->t<=1000->cY t:=λh0 h1=>by unfold cY;omega
 have Jo:kind=17\/kind=18->0<=(dw cs a).getD b.toNat 0/\(dw cs a).getD b.toNat 0 < 8+cs.length/\(dw cs a).getD b.toNat 0<=100:=λhk=>by
  have bA:=hb hk;have bV:b.toNat < (dw cs a).length:=by omega
  have e:(dw cs a).getD b.toNat 0=(dw cs a)[b.toNat]:=by simp[bV]
  have:=gC (oZ ok (a.toNat+1) (by omega) (hc (by omega)) _ (x_ bV));rw[e];have gE:(dw cs a)[b.toNat] < 8+cs.length:=by omega
  omega
 have ux:∀(types:List Int),types.length<=1000->(∀ x∈types,0<=x/\x < 8+cs.length/\x<=100)->∀(h1:Heap) (bt:Nat) (ty:TypeId) (K:Value->Heap->Prop) (E:List PanicEntry->Heap->Prop) (nt:Nat),h.le h1->h1 bt=some (.cells (types.map (Value.int .i64)).toArray ty (0,0))->nt=types.length ->
   (∀ a p1 n1 c1 p2 n2 c2 b,vJ h1 (.tuple #[.agg #[.bool a,.slice p1 n1 c1,.slice p2 n2 c2],.bool b]) (iA cs s types)->K (.tuple #[.agg #[.bool a,.slice p1 n1 c1,.slice p2 n2 c2],.bool b]) h1) ->
   Vc.Call prog 179 [.slice p n c,.agg #[.bool s.told,.slice lp s.locals.length lc,.slice kp s.stack.length kc],.slice (some ⟨bt,0,none⟩) nt nt] h1 K E:=by
  intro types hl hx h1 bt ty K E nt l1 g1 hn hK;subst hn;exact Mb (hcs.le l1 (λ_ _ hx=>hx.le l1)) ok (hI.1.le l1) (hI.2.le l1) rfl (vL g1 hl (λx xB=>by have:=hx x xB;omega)) hv (λx xB=>by have:=hx x xB;omega) hK
 have Pg:=Jn a h;have e1:(if a=0 then (3:Int)else 4)=zA a:=rfl;have e2:(if a=0 then (1:Int)else 8)=oz a:=rfl;rw[e1,e2]at Pg;generalize nR:zA a=at1 at Pg NC;generalize het:oz a=et1 at Pg LH;refine bZ au func181 Xv Xw rfl ?_;conv=>whnf
 refine aj Pg ?_;conv=>whnf
 refine ah ?_;conv=>whnf
 by_cases JX:kind=12
 ·subst JX;conv=>whnf
  refine qw hI.out (GH (by omega) (by omega)) ZV (λh1 a p1 n1 c1 p2 n2 c2 b l1 hs=>?_);conv=>whnf
  exact⟨l1,hs⟩
 refine cM JX ?_;conv=>whnf
 by_cases OP:kind=13
 ·subst OP;conv=>whnf
  refine ec [.int .i64 1] rfl (λb1 h1 gL e1 l1 g1=>?_);conv=>whnf
  refine ux [1] (by simp) (by simp;omega) h1 b1 _ _ _ 1 l1 g1 rfl (λa p1 n1 c1 p2 n2 c2 b hs=>?_);conv=>whnf
  refine qw hs (GH (by omega) (by omega)) (je hl2) (λh2 a p1 n1 c1 p2 n2 c2 b l2 hs=>?_);conv=>whnf
  refine⟨y_ l1 l2,?_⟩;rw[<-nR]at hs;exact hs
 refine cM OP ?_;conv=>whnf
 by_cases NI:kind=14
 ·subst NI;conv=>whnf
  refine ec [.int .i64 3] rfl (λb1 h1 gL e1 l1 g1=>?_);conv=>whnf
  refine ux [3] (by simp) (by simp;omega) h1 b1 _ _ _ 1 l1 g1 rfl (λa1 p1 n1 c1 p2 n2 c2 b2 hs=>?_);have et:wW cs ⟨14,a,b⟩ s=jo (match iA cs s [3]with
   | some r=>some r
   | none=>iA cs s [4]) 1:=rfl
  rw[et];cases hp3:iA cs s [3]with
  | some r =>
   rw[hp3]at hs;have fO:b2=true:=by obtain⟨_,_,_,_,e,_⟩:=hs;simp only[Value.tuple.injEq,Array.mk.injEq,List.cons.injEq,Value.bool.injEq,and_true]at e;exact e.2
   subst fO;have J0:=je hl2 r hp3;conv=>whnf
   refine qw hs (GH (by omega) (by omega)) (λr' Km=>by simp only[v_]at Km;subst Km;exact J0) (λh2 a p1 n1 c1 p2 n2 c2 b l2 hs=>?_);conv=>whnf
   exact⟨y_ l1 l2,hs⟩
  | none =>
   rw[hp3]at hs;have fO:b2=false:=by obtain⟨_,_,_,_,_,_,_,e⟩:=hs;simp only[Value.tuple.injEq,Array.mk.injEq,List.cons.injEq,Value.bool.injEq,and_true]at e;exact e.2
   subst fO;conv=>whnf
   refine ec [.int .i64 4] rfl (λb3 h3 s7 e3 l3 g3=>?_);conv=>whnf
   refine ux [4] (by simp) (by simp;omega) h3 b3 _ _ _ 1 (y_ l1 l3) g3 rfl (λa1 p1 n1 c1 p2 n2 c2 b2 hs=>?_);conv=>whnf
   refine qw hs (GH (by omega) (by omega)) (je hl2) (λh2 a p1 n1 c1 p2 n2 c2 b l2 hs=>?_);conv=>whnf
   exact⟨y_ l1 (y_ l3 l2),hs⟩
 refine cM NI ?_;conv=>whnf
 by_cases NJ:kind=15
 ·subst NJ;conv=>whnf
  refine ec [.int .i64 at1,.int .i64 1] rfl (λb1 h1 gL e1 l1 g1=>?_);conv=>whnf
  refine ux [at1,1] (by simp) (by simp;omega) h1 b1 _ _ _ 2 l1 g1 rfl (λa1 p1 n1 c1 p2 n2 c2 b2 hs=>?_);conv=>whnf
  refine qw hs (GH (by omega) (by omega)) (je hl2) (λh2 a1 p1 n1 c1 p2 n2 c2 b2 l2 hs=>?_);conv=>whnf
  refine⟨y_ l1 l2,?_⟩;rw[<-nR,<-het]at hs;exact hs
 refine cM NJ ?_;conv=>whnf
 by_cases NK:kind=16
 ·subst NK;conv=>whnf
  refine ec [.int .i64 at1,.int .i64 1,.int .i64 et1] rfl (λb1 h1 gL e1 l1 g1=>?_);conv=>whnf
  refine ux [at1,1,et1] (by simp) (by simp;omega) h1 b1 _ _ _ 3 l1 g1 rfl (λa1 p1 n1 c1 p2 n2 c2 b2 hs=>?_);conv=>whnf
  refine⟨l1,?_⟩;rw[<-nR,<-het]at hs;exact hs
 refine cM NK ?_;conv=>whnf
 by_cases NL:kind=17
 ·subst NL;have hf:=Jo (.inl rfl);have Sy:=hc (by simp);have uC:=hb (.inl rfl);have bV:b.toNat < (dw cs a).length:=by omega
  have S3:(dw cs a).getD b.toNat 0=(dw cs a)[b.toNat]:=by simp[bV]
  conv=>whnf
  refine ec [.int .i64 (8+a)] rfl (λb1 h1 gL e1 l1 g1=>?_);conv=>whnf
  refine ux [8+a] (by simp) (by simp;omega) h1 b1 _ _ _ 1 l1 g1 rfl (λa1 p1 n1 c1 p2 n2 c2 b2 hs=>?_);have CB:=hcs.le l1 (λ_ _ hx=>hx.le l1);have key:∀(h3:Heap) (p':Option Addr) (c':Nat),dy h3 (.slice p' (dw cs a).length c') (dw cs a)->∃ bq oq,p'=some ⟨bq,oq,none⟩/\rd h3 bq (oq+b.toNat*1)=some (.int .i64 ((dw cs a).getD b.toNat 0)):=λh3 p' c' hi=>by
   rw[S3];exact hi.at bV
  have JW:∀ h3,h1.le h3->vJ h3 (.tuple #[.agg #[.bool a1,.slice p1 n1 c1,.slice p2 n2 c2],.bool b2]) (iA cs s [8+a]):=λh3 l3=>by
   cases hp:iA cs s [8+a]with
   | none=>rw[hp]at hs;exact hs
   | some r =>
    rw[hp]at hs;obtain⟨q1,d1,q2,d2,e,i1,i2⟩:=hs;exact⟨q1,d1,q2,d2,e,i1.le l3,i2.le l3⟩
  have ldk:∀(h3:Heap) (p':Option Addr) (c':Nat),dy h3 (.slice p' (dw cs a).length c') (dw cs a)->∀ K:Nat->Nat->Prop,(∀ bq oq,rd h3 bq (oq+b.toNat*1)=some (.int .i64 ((dw cs a).getD b.toNat 0))->K bq oq)->Ptr p' K:=λh3 p' c' hi K hk=>by
   obtain⟨bq,oq,e,r⟩:=key h3 p' c' hi;exact aG e (hk bq oq r)
  conv=>whnf
  repeat' ((first|exact trivial|apply T_|refine zz CB ok ⟨ha.1,Sy⟩ (λh3 p' c' l3 hi=>?_)|refine aq ?_|refine ldk h3 p' c' hi _ (λbq oq rq=>?_)|refine ld rq ?_|refine vK (JW h3 l3) (GH (by omega) (by omega)) (je hl2) (λh4 a1 p1 n1 c1 p2 n2 c2 b2 l4 hs=>?_))<;>conv=>whnf)
  all_goals first|exact y_ l1 (y_ l3 l4)|exact hs
 refine cM NL ?_;conv=>whnf
 by_cases NM:kind=18
 ·subst NM;have hf:=Jo (.inr rfl);have Sy:=hc (by simp);have uC:=hb (.inr rfl);have bV:b.toNat < (dw cs a).length:=by omega
  have S3:(dw cs a).getD b.toNat 0=(dw cs a)[b.toNat]:=by simp[bV]
  have ldk:∀(h3:Heap) (p':Option Addr) (c':Nat),dy h3 (.slice p' (dw cs a).length c') (dw cs a)->∀ K:Nat->Nat->Prop,(∀ bq oq,rd h3 bq (oq+b.toNat*1)=some (.int .i64 ((dw cs a).getD b.toNat 0))->K bq oq)->Ptr p' K:=λh3 p' c' hi K hk=>by
   obtain⟨bq,oq,e,r⟩:=hi.at bV;exact aG e (hk bq oq (by rw[S3];exact r))
  have two:∀ x∈[8+a,(dw cs a).getD b.toNat 0],0<=x/\x < 8+cs.length/\x<=100:=λx xB=>by
   rcases List.mem_cons.1 xB with rfl|xB
   ·omega
   ·rw[V_.1 xB];exact hf
  have acW:∀(h1:Heap) (bt:Nat) (ty:TypeId) (K:Value->Heap->Prop) (E:List PanicEntry->Heap->Prop) (nt:Nat),h.le h1->h1 bt=some (.cells ([8+a,(dw cs a).getD b.toNat 0].map (Value.int .i64)).toArray ty (0,0))->nt=2 ->
    (∀ a1 p1 n1 c1 p2 n2 c2 b1,vJ h1 (.tuple #[.agg #[.bool a1,.slice p1 n1 c1,.slice p2 n2 c2],.bool b1]) (iA cs s [8+a,(dw cs a).getD b.toNat 0])->K (.tuple #[.agg #[.bool a1,.slice p1 n1 c1,.slice p2 n2 c2],.bool b1]) h1) ->
    iF prog 179 [.slice p n c,.agg #[.bool s.told,.slice lp s.locals.length lc,.slice kp s.stack.length kc],.slice (some ⟨bt,0,none⟩) nt nt] h1 K E:=by
   intro h1 bt ty K E nt l1 g1 hn hK;subst hn;exact GC (types:=[8+a,(dw cs a).getD b.toNat 0]) (hcs.le l1 (λ_ _ hx=>hx.le l1)) ok (hI.1.le l1) (hI.2.le l1) rfl (vL g1 (by simp) (λx xB=>by have:=two x xB;omega)) hv (λx xB=>by have:=two x xB;omega) hK
  conv=>whnf
  repeat' ((first|exact trivial|apply T_|refine zz hcs ok ⟨ha.1,Sy⟩ (λh3 p' c' l3 hi=>?_)|refine aq ?_|refine ldk h3 p' c' hi _ (λbq oq rq=>?_)|refine ld rq ?_|refine ec [.int .i64 (8+a),.int .i64 ((dw cs a).getD b.toNat 0)] rfl (λb5 h5 mz e5 l5 g5=>?_)|refine acW h5 b5 _ _ _ _ (y_ l3 l5) g5 rfl (λa1 p1 n1 c1 p2 n2 c2 b2 hs=>?_))<;>conv=>whnf)
  all_goals first|exact y_ l3 l5|exact hs
 refine cM NM ?_;conv=>whnf
 have OQ:kind=19:=by omega
 subst OQ;refine ec [.int .i64 8] rfl (λb1 h1 gL e1 l1 g1=>?_);conv=>whnf
 refine ux [8] (by simp) (by simp;omega) h1 b1 _ _ _ 1 l1 g1 rfl (λa1 p1 n1 c1 p2 n2 c2 b2 hs=>?_);conv=>whnf
 refine qw hs (GH (by omega) (by omega)) (je hl2) (λh2 a1 p1 n1 c1 p2 n2 c2 b2 l2 hs=>?_);conv=>whnf
 exact⟨y_ l1 l2,hs⟩
theorem lG {el:TypeId} {h h1:Heap} {p:Option Addr} {n c m:Nat} {l k:List Int} {B:List Nat} {K:Value->Heap->Prop} (ho:dR h1 (.slice p n c) l B) (hB:∀ b∈B,h b=none) (hl:h.le h1) (hm:m=k.length) (hs:l.length+k.length<=1000000) (hi:∀ t∈l++k,cY t)
  (hk:∀ p' c' h2 B',h.le h2->dR h2 (.slice p' (l.length+k.length) c') (l++k) B'->dy h2 (.slice p' (l++k).length c') (l++k)->(∀ b∈B',h b=none)->K (.slice p' (l++k).length c') h2):App 8 1 [.int .i64 0] el h1 p n c m (k.map (Value.int .i64)) K:=by
 refine dA (h0:=h) (xs:=l.map bN) (ys:=k.map bN) ho hB hl (ek k).symm (by rw[hm];simp) (λy hy=>by obtain⟨w,_,rfl⟩:=List.mem_map.1 hy;rfl) (dS k) rfl (by simp;omega) (by simp;omega) ?_;intro v' h2 B2 k1 k2 k3 k4 k5;have uE:dR h2 v' (l++k) B2:=by unfold dR;rw[List.map_append];exact k2
 obtain⟨p',c',rfl,_⟩:=cr.form uE;have tn:((l++k).map bN).length=(l++k).length:=by simp
 rw[tn]at uE ⊢;have tX:(l++k).length=l.length+k.length:=by simp
 exact hk p' c' h2 B2 k1 (by rw[<-tX];exact uE) (fm uE (by rw[tX];omega) hi).2 k3
def zB (u:aO) (i:ez) (s:dY):Option dY :=
 let k:=if i.kind=21 then find u i.a i.b else i.a
 if k < 0 then none else jo (iA u.J s ((if i.kind=21 then [8+i.a]else [])++(aV u k).args)) (aV u k).out
def GI (u:aO):Prop:=cI u.J/\∀ m∈u.methods,m.args.length<=3/\iS u.J.length m.args/\dg u.J.length m.out
theorem GI.aV {u:aO} (hu:GI u) {k:Int} (h:0<=k/\k < u.methods.length):(aV u k).args.length<=3/\iS u.J.length (aV u k).args/\dg u.J.length (aV u k).out:=hu.2 _ (iV h)
theorem Jp (us:List Value) (u:aO) (kind a b:Int) (s:dY) (lp kp:Option Addr) (lc kc:Nat) (h:Heap) (hu:dG h us u) (hV:GI u) (hI:tq h s lp kp lc kc) (hv:∀ t∈s.stack,t < 8+(u.J.length:Int)) (hl2:s.stack.length<=1000)
  (hk:kind=20\/kind=21) (Fo:kind=20->0<=a/\a < u.methods.length) (Fp:kind=21->0<=a/\a < u.J.length) :
  bI prog 180 [.agg ⟨us⟩,.agg #[.int .i64 kind,.int .i64 a,.int .i64 b],.agg #[.bool s.told,.slice lp s.locals.length lc,.slice kp s.stack.length kc]] h λv h'=>h.le h'/\vJ h' v (zB u ⟨kind,a,b⟩ s):=by
 have iw:=hu;obtain⟨p,cc,q,d,rfl,hcs,fM,ji,acX⟩:=hu.form;have ok:=hV.1;have zi:=ok.2.1;have args:∀(h1:Heap) (k:Int),h.le h1->0<=k->k < u.methods.length->∃ bb oo pa ca,q=some ⟨bb,oo,none⟩/\rd h1 bb (oo+k.toNat*8+2)=some (.slice pa (aV u k).args.length ca)/\rd h1 bb (oo+k.toNat*8+3)=some (.int .i64 (aV u k).out)/\dy h1 (.slice pa (aV u k).args.length ca) (aV u k).args:=by
  intro h1 k l1 Nv HF;have hi:k.toNat < u.methods.length:=by omega
  obtain⟨bb,oo,ms,wA,e1,e2⟩:=fM.get hi;have oE:aV u k=u.methods[k.toNat]:=gU hi (by omega);obtain⟨p1,c1,p2,c2,p3,c3,p4,c4,e3,k1,k2,k3,k4,k5,k6,k7,k8,d1,d2,d3,d4⟩:=e2.form;subst e3;exact⟨bb,oo,p1,c1,wA,by rw[oE];exact aX l1 (aE e1 (i:=2) rfl),by rw[oE];exact aX l1 (aE e1 (i:=3) rfl),by rw[oE];exact k5.le l1⟩
 rcases hk with rfl|rfl
 ·have ha:=Fo rfl;have et:zB u ⟨20,a,b⟩ s=jo (iA u.J s ([]++(aV u a).args)) (aV u a).out:=by
   unfold zB;simp;omega
  rw[et];have hm:=hV.aV ha;have ho:=gC hm.2.2;obtain⟨bb,oo,pa,ca,hq,ra,ro,ri⟩:=args h a (z_ h) ha.1 ha.2;have ZW:∀ t∈[]++(aV u a).args,0<=t/\t < 8+(u.J.length:Int):=λt ht=>by
   have:=gC (hm.2.1 t (by simpa using ht));omega
  refine bZ au func180 Ow KF rfl ?_;conv=>whnf
  refine ec [] rfl (λb0 h1 tZ e0 l1 g0=>?_);conv=>whnf
  refine bH ?_;conv=>whnf
  have ra1:=aX l1 ra;repeat' ((first|exact trivial|apply T_|refine aq ?_|refine aG hq ?_|refine ld ra1 ?_|refine EG l1 ri ?_|refine lG (l:=[]) (dX g0) (by simpa using tZ) l1 rfl (by simp;omega) (λt ht=>by have:=ZW t ht;unfold cY;omega) (λp2 c2 h2 B2 l2 o2 r2 n2=>?_)|refine GC (hcs.le l2 (λ_ _ hx=>hx.le l2)) ok (hI.1.le l2) (hI.2.le l2) rfl r2 hv (λt ht=>(ZW t ht).2) (λa1 p1 n1 c1 p3 n3 c3 b1 hs=>?_))<;>conv=>whnf)
  all_goals
   have ro1:=aX l2 ro;repeat' ((first|exact trivial|apply T_|refine aq ?_|refine aG hq ?_|refine ld ro1 ?_|refine vK hs (by unfold cY;omega) (je hl2) (λh4 a1 p1 n1 c1 p3 n3 c3 b1 l4 hs=>?_))<;>conv=>whnf)
   all_goals first|exact y_ l2 l4|exact hs
 ·have ha:=Fp rfl;have et:zB u ⟨21,a,b⟩ s=if find u a b < 0 then none else jo (iA u.J s ([8+a]++(aV u (find u a b)).args)) (aV u (find u a b)).out:=rfl
  rw[et];have Df:=λ(h1:Heap) (l1:h.le h1)=>rC _ u a b h1 (iw.le l1) ok (by omega) ha.2;have hfb:=jN u a b;by_cases hf:find u a b < 0
  ·rw[if_pos hf];generalize find u a b=k at Df hf;refine bZ au func180 Ow KF rfl ?_;conv=>whnf
   refine ec [] rfl (λb0 h1 tZ e0 l1 g0=>?_);conv=>whnf
   refine aj (Df h1 l1) ?_;conv=>whnf
   refine ah ?_;conv=>whnf
   refine lG (l:=[]) (k:=[8+a]) (dX g0) (by simpa using tZ) l1 rfl (by simp) (λt ht=>by simp at ht;unfold cY;omega) (λp2 c2 h2 B2 l2 o2 r2 n2=>?_);conv=>whnf
   refine gI hf ?_;conv=>whnf
   exact⟨l2,_,_,_,_,_,_,_,rfl⟩
  ·rw[if_neg hf];have NT:0<=find u a b/\find u a b < u.methods.length:=by omega
   generalize find u a b=k at Df hf NT;have hm:=hV.aV NT;have ho:=gC hm.2.2;obtain⟨bb,oo,pa,ca,hq,ra,ro,ri⟩:=args h k (z_ h) NT.1 NT.2;have ZW:∀ t∈([]++[8+a])++(aV u k).args,0<=t/\t < 8+(u.J.length:Int):=λt ht=>by
    simp only[List.nil_append,List.cons_append,List.mem_cons]at ht;rcases ht with rfl|ht
    ·omega
    ·have:=gC (hm.2.1 t ht);omega
   refine bZ au func180 Ow KF rfl ?_;conv=>whnf
   refine ec [] rfl (λb0 h1 tZ e0 l1 g0=>?_);conv=>whnf
   refine aj (Df h1 l1) ?_;conv=>whnf
   refine ah ?_;conv=>whnf
   refine lG (l:=[]) (k:=[8+a]) (dX g0) (by simpa using tZ) l1 rfl (by simp) (λt ht=>by simp at ht;unfold cY;omega) (λp2 c2 h2 B2 l2 o2 r2 n2=>?_);conv=>whnf
   refine cM hf ?_;conv=>whnf
   have ra1:=aX l2 ra;repeat' ((first|exact trivial|apply T_|refine aq ?_|refine aG hq ?_|refine ld ra1 ?_|refine EG l2 ri ?_|refine lG (l:=[]++[8+a]) o2 n2 l2 rfl (by simp;omega) (λt ht=>by have:=ZW t ht;unfold cY;omega) (λp4 c4 h4 B4 l4 o4 r4 n4=>?_)|refine GC (hcs.le l4 (λ_ _ hx=>hx.le l4)) ok (hI.1.le l4) (hI.2.le l4) rfl r4 hv (λt ht=>(ZW t ht).2) (λa1 p1 n1 c1 p3 n3 c3 b1 hs=>?_))<;>conv=>whnf)
   all_goals
    have ro1:=aX l4 ro;repeat' ((first|exact trivial|apply T_|refine aq ?_|refine aG hq ?_|refine ld ro1 ?_|refine vK hs (by unfold cY;omega) (je hl2) (λh5 a1 p1 n1 c1 p3 n3 c3 b1 l5 hs=>?_))<;>conv=>whnf)
    all_goals first|exact y_ l4 l5|exact hs
def stepT (u:aO) (m:cL) (i:ez) (s:dY):Option dY :=
 if i.kind=22 then iA u.J s [m.out]
 else if i.kind=20\/i.kind=21 then zB u i s
 else if 12<=i.kind/\i.kind<=19 then wW u.J i s
 else qv u.J i s
structure rP (n:Nat) (k:Int) (s:dY):Prop where
 loc:(s.locals.length:Int)=k
 gj:∀ t∈s.locals,0<=t/\t < 8+(n:Int)
 cP:∀ t∈s.stack,0<=t/\t < 8+(n:Int)
 len:s.stack.length<=4
theorem wX (us ms:List Value) (u:aO) (m:cL) (at_:Int) (s:dY) (lp kp:Option Addr) (lc kc:Nat) (h:Heap) (hu:dG h us u) (hm:eM h ms m) (hV:GI u) (hI:tq h s lp kp lc kc) (hs:rP u.J.length m.locals s) (hl:m.locals<=3) (nR:0<=at_/\at_ < m.code.length) (hx:eU u m (m.code.getD at_.toNat ep)) (fK:dg u.J.length m.out) :
  bI prog 153 [.agg ⟨us⟩,.agg ⟨ms⟩,.int .i64 at_,.agg #[.bool s.told,.slice lp s.locals.length lc,.slice kp s.stack.length kc]] h λv h'=>h.le h'/\vJ h' v (stepT u m (m.code.getD at_.toNat ep) s):=by
 have iw:=hu;obtain⟨p,cc,q,d,rfl,hcs,fM,ji,acX⟩:=hu.form;have ok:=hV.1;have zi:=ok.2.1;obtain⟨p1,c1,p2,c2,p3,c3,p4,c4,rfl,k1,k2,k3,k4,k5,k6,k7,k8,d1,d2,d3,d4⟩:=hm.form;have bV:at_.toNat < m.code.length:=by omega
 obtain⟨bc,oc,cvs,Lf,f1,f2,f3⟩:=k6.get bV;have hg:m.code.getD at_.toNat ep=m.code[at_.toNat]:=by simp[bV]
 rw[hg]at hx ⊢;subst f2;generalize m.code[at_.toNat]=x at f1 hx;obtain⟨kind,a,b⟩:=x;simp only at f1;have rQ:=wV s.told lp kp lc kc s.locals s.stack h hI.1 hI.2 (by have:=hs.loc;omega) (by have:=hs.len;omega);have jB:∀ t∈s.stack,t < 8+(u.J.length:Int):=λt ht=>(hs.cP t ht).2;have Uv:=hs.len;have ady:=gC fK;have i1:∀ t∈s.locals,cY t:=λt ht=>by have:=hs.gj t ht;unfold cY;omega
 have i2:∀ t∈s.stack,cY t:=λt ht=>by have:=hs.cP t ht;unfold cY;omega
 have et:stepT u m ⟨kind,a,b⟩ s=if kind=22 then iA u.J s [m.out]else if kind=20\/kind=21 then zB u ⟨kind,a,b⟩ s else if 12<=kind/\kind<=19 then wW u.J ⟨kind,a,b⟩ s else qv u.J ⟨kind,a,b⟩ s:=rfl
 generalize stepT u m ⟨kind,a,b⟩ s=res at et;refine bZ au func153 WO WQ rfl ?_;conv=>whnf
 refine aq ?_;conv=>whnf
 refine aG Lf ?_;conv=>whnf
 refine dJ f1 ?_;conv=>whnf
 refine aC rQ (λv h1 hh=>?_);refine hh.elim λq1 hh=>hh.elim λe1 hh=>hh.elim λq2 hh=>hh.elim λe2 hh=>hh.elim λB1 hh=>hh.elim λB2 hh=>?_;have hv:=hh.1;subst hv;have st:=hh.2;have NQ:=st.le;have r1:=(fm st.o1 (by have:=hs.loc;omega) i1).2;have r2:=(fm st.o2 (by omega) i2).2;have Ta:tq h1 s q1 q2 e1 e2:=⟨r1,r2⟩
 have CB:fP h1 (.slice p u.J.length cc) u.J:=hcs.le NQ (λ_ _ hx=>hx.le NQ);have D6:=iw.le NQ;by_cases Fu:kind=22
 ·rw[if_pos Fu]at et;subst Fu;conv=>whnf
  refine ec [.int .i64 m.out] rfl (λb3 h3 s7 e3 l3 g3=>?_);conv=>whnf
  refine Mb (types:=[m.out]) (CB.le l3 (λ_ _ hx=>hx.le l3)) ok (Ta.1.le l3) (Ta.2.le l3) rfl (vL g3 (by simp) (λx xB=>by rw[V_.1 xB];omega)) jB (λx xB=>by rw[V_.1 xB];omega) (λa1 p1 n1 c1 p3 n3 c3 b1 hs=>?_);conv=>whnf
  rw[et];exact⟨y_ NQ l3,hs⟩
 rw[if_neg Fu]at et;by_cases Fx:kind=20\/kind=21
 ·rw[if_pos Fx]at et;have bX:=Jp _ u kind a b s q1 q2 e1 e2 h1 D6 hV Ta jB (by omega) Fx (λhk=>by
   subst hk;have:=(aI (p:=7) (q:=0) rfl).1 hx;simp[bz]at this;exact this.1.1) (λhk=>by
   subst hk;have:=(aI (p:=5) (q:=9) rfl).1 hx;simp[bz]at this;exact this.1)
  rw[<-et]at bX;rcases Fx with rfl|rfl;all_goals
   conv=>whnf
   refine aC bX (λv h2 hh=>?_);refine hh.2.form.elim λa1 hf=>hf.elim λp1 hf=>hf.elim λn1 hf=>hf.elim λc1 hf=>hf.elim λp3 hf=>hf.elim λn3 hf=>hf.elim λc3 hf=>hf.elim λb1 hf=>?_;subst hf;conv=>whnf
   exact⟨y_ NQ hh.1,hh.2⟩
 rw[if_neg Fx]at et;have OS:¬kind=20:=λhk=>Fx (.inl hk);have OT:¬kind=21:=λhk=>Fx (.inr hk);conv=>whnf
 refine cM Fu ?_;conv=>whnf
 refine cM OS ?_;conv=>whnf
 refine cM OT ?_;conv=>whnf
 refine aj (dP _ _ _ _) ?_;conv=>whnf
 apply ax<;>intro kt;all_goals conv=>whnf
 ·rw[if_pos kt]at et;have NN:(kind=12\/kind=17\/kind=18\/kind=19->0<=a/\a < u.J.length)/\(kind=17\/kind=18->0<=b/\b < (dw u.J a).length):=hx.wO;have NC:kind=13\/kind=15\/kind=16->a=0\/a=1:=λhk=>by
   rcases hk with rfl|rfl|rfl;all_goals
    have:=(aI (p:=6) (q:=0) rfl).1 hx;simp[bz]at this;exact this.1
  have h14:kind=14->a=0:=λhk=>by
   subst hk;have:=(aI (p:=0) (q:=0) rfl).1 hx;simp[bz]at this;exact this.1
  have Md:=GG p u.J.length cc u.J kind a b s q1 q2 e1 e2 h1 CB ok Ta jB (by omega) kt (by
   by_cases hk:kind=12\/kind=17\/kind=18\/kind=19
   ·have:=NN.1 hk;omega
   ·by_cases Uw:kind=14
    ·have:=h14 Uw;omega
    ·have:=NC (by omega);omega) (λhk=>(NN.1 hk).2) NN.2
  rw[<-et]at Md;refine aC Md (λv h2 hh=>?_);refine hh.2.form.elim λa1 hf=>hf.elim λp1 hf=>hf.elim λn1 hf=>hf.elim λc1 hf=>hf.elim λp3 hf=>hf.elim λn3 hf=>hf.elim λc3 hf=>hf.elim λb1 hf=>?_;subst hf;conv=>whnf
  exact⟨y_ NQ hh.1,hh.2⟩
 ·rw[if_neg kt]at et;have Me:=GD p u.J.length cc u.J kind a b s q1 q2 e1 e2 B1 B2 h h1 CB ok st Ta jB (λhk=>by
   rcases hk with rfl|rfl;all_goals
    have:=(aI (p:=2) (q:=0) rfl).1 hx;simp[bz]at this;have:=hs.loc;omega) (by have:=hs.loc;omega) (by omega)
  rw[<-et]at Me;refine aC Me (λv h2 hh=>?_);refine hh.2.form.elim λa1 hf=>hf.elim λp1 hf=>hf.elim λn1 hf=>hf.elim λc1 hf=>hf.elim λp3 hf=>hf.elim λn3 hf=>hf.elim λc3 hf=>hf.elim λb1 hf=>?_;subst hf;conv=>whnf
  exact hh
def Dn (cs:List eD) (a b:dY):Bool:=decide (a.stack.length=b.stack.length)&&(jn cs a.locals b.locals&&jn cs a.stack b.stack)
theorem By {cs:List eD} (l r:List Int):jn cs (l.drop l.length) (r.drop l.length)=true:=by rw[List.drop_length];simp[jn]
theorem CS (p:Option Addr) (n c:Nat) (cs:List eD) (s r:dY) (lp kp mp jp:Option Addr) (lc kc mc jc:Nat) (h:Heap) (hcs:fP h (.slice p n c) cs) (ok:cI cs) (hI:tq h s lp kp lc kc) (hJ:tq h r mp jp mc jc) (hl:s.locals.length<=r.locals.length) (kL:∀ t∈s.locals,t < 8+(cs.length:Int)) (Ak:∀ t∈s.stack,t < 8+(cs.length:Int))
  (ur:∀ t∈r.locals,t < 8+(cs.length:Int)) (NU:∀ t∈r.stack,t < 8+(cs.length:Int)) :
  Pure prog 151 [.slice p n c,.agg #[.bool s.told,.slice lp s.locals.length lc,.slice kp s.stack.length kc],.agg #[.bool r.told,.slice mp r.locals.length mc,.slice jp r.stack.length jc]] h (.bool (Dn cs s r)):=by
 have l1:=hI.1.1;have l2:=hI.2.1;have fin:∀ {b:Bool},Dn cs s r=b->Value.bool b=.bool (Dn cs s r):=λe=>by rw[e]
 refine iC au func151 WK WL rfl ?_;conv=>whnf
 apply aT<;>intro g;all_goals conv=>whnf
 ·exact⟨fin (by unfold Dn;simp;omega),rfl⟩
 have hk:s.stack.length=r.stack.length:=by omega
 have fW:Dn cs s r=(jn cs (s.locals.drop 0) (r.locals.drop 0)&&jn cs s.stack r.stack):=by unfold Dn;simp[hk]
 refine fh [0,4,5,7] [4,5] (λi:Nat=>i<=s.locals.length/\Dn cs s r=(jn cs (s.locals.drop i) (r.locals.drop i)&&jn cs s.stack r.stack)) (λi=>s.locals.length-i)
  (λi=>([.v (.slice p n c),.l 4 0,.l 5 0,.v (.int .i64 i)],[some [.bool s.told,.slice lp s.locals.length lc,.slice kp s.stack.length kc],some [.bool r.told,.slice mp r.locals.length mc,.slice jp r.stack.length jc]],h)) 0 ⟨by omega,fW⟩ rfl ?_
 rintro i ⟨hi,hg⟩;conv=>whnf
 apply ax<;>intro g2;all_goals conv=>whnf
 ·have bV:i < s.locals.length:=by omega
  have wD:i < r.locals.length:=by omega
  obtain⟨b1,o1,q1,a1⟩:=hI.1.at bV;obtain⟨b2,o2,q2,a2⟩:=hJ.1.at wD;have hl2:=qe p n c cs s.locals[i] r.locals[i] h hcs ok (kL _ (x_ bV)) (ur _ (x_ wD));rw[uw bV wD]at hg;repeat' ((first|refine aq ?_|refine aG q1 ?_|refine aG q2 ?_|refine ld a1 ?_|refine ld a2 ?_|refine aK hl2 ?_)<;>conv=>whnf)
  apply cJ<;>intro g3;all_goals conv=>whnf
  ·exact⟨fin (by rw[hg,g3];rfl),rfl⟩
  ·refine ah ?_;conv=>whnf
   refine dm (i+1) ⟨by omega,by rw[hg,g3];rfl⟩ (by omega) rfl
 ·have mB:i=s.locals.length:=by omega
  subst mB;rw[By,Bool.true_and]at hg;have Uq:Dn cs s r=jn cs (s.stack.drop 0) (r.stack.drop 0):=hg;refine fh [0,4,5,8] [4,5] (λi:Nat=>i<=s.stack.length/\Dn cs s r=jn cs (s.stack.drop i) (r.stack.drop i)) (λi=>s.stack.length-i)
   (λi=>([.v (.slice p n c),.l 4 0,.l 5 0,.v (.int .i64 i)],[some [.bool s.told,.slice lp s.locals.length lc,.slice kp s.stack.length kc],some [.bool r.told,.slice mp r.locals.length mc,.slice jp r.stack.length jc]],h)) 0 ⟨by omega,Uq⟩ rfl ?_
  rintro i ⟨hi,hg⟩;conv=>whnf
  apply ax<;>intro g2;all_goals conv=>whnf
  ·have bV:i < s.stack.length:=by omega
   have wD:i < r.stack.length:=by omega
   obtain⟨b1,o1,q1,a1⟩:=hI.2.at bV;obtain⟨b2,o2,q2,a2⟩:=hJ.2.at wD;have hl2:=qe p n c cs s.stack[i] r.stack[i] h hcs ok (Ak _ (x_ bV)) (NU _ (x_ wD));rw[uw bV wD]at hg;repeat' ((first|refine aq ?_|refine aG q1 ?_|refine aG q2 ?_|refine ld a1 ?_|refine ld a2 ?_|refine aK hl2 ?_)<;>conv=>whnf)
   apply cJ<;>intro g3;all_goals conv=>whnf
   ·exact⟨fin (by rw[hg,g3];rfl),rfl⟩
   ·refine ah ?_;conv=>whnf
    refine dm (i+1) ⟨by omega,by rw[hg,g3];rfl⟩ (by omega) rfl
  ·have mB:i=s.stack.length:=by omega
   subst mB;rw[By]at hg;exact⟨fin hg,rfl⟩
theorem H6 {cs:List eD} (ok:cI cs):∀(k:Nat) {a:Int},a.toNat < k->0<=a->a < cs.length->up cs a 0=true
 | 0,a,h,_,_=>by omega
 | k+1,a,h,h0,hl=>by
  rw[iT ok h0 hl];by_cases ha:a=0
  ·simp[ha]
  ·have hi:a.toNat < cs.length:=by omega
   have hc:=ok.2.2 a.toNat hi;have hs:bG cs a=cs[a.toNat].bU:=by have:=mW hi;rwa [show((a.toNat:Nat):Int)=a by omega]at this
   have Ak:=ok.bU h0 hl;have h1:0<=bG cs a:=by
    rw[hs];rcases Nat.lt_trichotomy a.toNat 1 with g|g|g
    ·omega
    ·rw[(hc.2.2.1 g).1];omega
    ·exact(hc.2.2.2.1 g).1
   have:=H6 ok k (a:=bG cs a) (by omega) h1 (by omega);simp[this]
theorem Mf {cs:List eD} (ok:cI cs) {a:Int} (h0:0 < a) (hl:a < cs.length):0<=bG cs a:=by
 have hi:a.toNat < cs.length:=by omega
 have hc:=ok.2.2 a.toNat hi;have hs:bG cs a=cs[a.toNat].bU:=by have:=mW hi;rwa [show((a.toNat:Nat):Int)=a by omega]at this
 rw[hs];rcases Nat.lt_trichotomy a.toNat 1 with g|g|g
 ·omega
 ·rw[(hc.2.2.1 g).1];omega
 ·exact(hc.2.2.2.1 g).1
theorem Mg (p:Option Addr) (n c:Nat) (cs:List eD) (a b:Int) (h:Heap) (hcs:fP h (.slice p n c) cs) (ok:cI cs) (ha:0<=a/\a < cs.length) (hb:0<=b/\b < cs.length) :
  bI prog 218 [.slice p n c,.int .i64 a,.int .i64 b] h λv h'=>h'=h/\∃ j,v=.int .i64 j/\0<=j/\j<=a:=by
 have hn:=hcs.n;refine bZ au func218 YB YC rfl ?_;conv=>whnf
 refine fh [0,1,2] [] (λj:Int=>0<=j/\j<=a) (λj=>j.toNat) (λj=>([.v (.slice p n c),.v (.int .i64 j),.v (.int .i64 b)],[],h)) a ⟨ha.1,by omega⟩ rfl ?_;rintro j ⟨hj0,Ux⟩;conv=>whnf
 refine aj (tW p n c cs b j h hcs ok (by omega) hb.2 hj0) ?_;conv=>whnf
 apply cJ<;>intro g;all_goals conv=>whnf
 ·have hj1:0 < j:=by
   rcases Int.lt_or_le 0 j with h1|h1
   ·exact h1
   ·have:j=0:=by omega
    rw[this,H6 ok (b.toNat+1) (by omega) hb.1 hb.2]at g;cases g
  have hi:j.toNat < cs.length:=by omega
  obtain⟨bb,oo,q,k,d,hq,_,r0,_⟩:=hcs.at hi;have hs:bG cs j=cs[j.toNat].bU:=by have:=mW hi;rwa [show((j.toNat:Nat):Int)=j by omega]at this
  rw[<-hs]at r0;have Ak:=ok.bU hj0 (by omega);have tg:=Mf ok hj1 (by omega);repeat' ((first|refine aG hq ?_|refine ld r0 ?_|refine aq ?_|refine ah ?_|refine ptr ?_)<;>conv=>whnf)
  exact dm (bG cs j) ⟨tg,by omega⟩ (by omega) rfl
 ·exact⟨rfl,j,rfl,hj0,Ux⟩
def oA (t:Int):Nat:=if t=0 then 0 else if t=1 then 1 else if t=2 then 10 else if t < 8 then 2 else (t-7).toNat
def mo (cs:List eD) (a r:Int):Prop:=(0<=r/\r < 8+(cs.length:Int))/\oA r<=oA a/\(iy cs r a=false->oA r < oA a)
theorem Ph {cs:List eD} (ok:cI cs) {a b:Int} (ha:0<=a/\a < 8+(cs.length:Int)) (hb:0<=b/\b < 8+(cs.length:Int)) (h:iy cs a b=true):oA b<=oA a/\(b≠a->oA b < oA a):=by
 have hc:=ok.2.1;unfold iy at h;by_cases h1:a=b\/b=0
 ·rcases h1 with rfl|rfl
  ·exact⟨Nat.le_refl _,λhn=>absurd rfl hn⟩
  ·refine⟨by simp[oA],λhn=>?_⟩;unfold oA;rw[if_pos rfl,if_neg (λh=>hn h.symm)];split
   ·omega
   ·split
    ·omega
    ·split<;>omega
 ·rw[if_neg h1]at h;by_cases h2:a=2
  ·rw[if_pos h2]at h;simp at h;unfold oA;subst h2;have:¬b=0/\¬b=1/\¬b=2:=by omega
   rw[if_neg this.1,if_neg this.2.1,if_neg this.2.2];split
   ·simp
   ·simp;omega
  ·rw[if_neg h2]at h;by_cases h3:a < 2\/b < 8
   ·rw[if_pos h3]at h;cases h
   ·rw[if_neg h3]at h;have ZX:¬b=0/\¬b=1/\¬b=2/\¬b < 8:=by omega
    have ha2:¬a=0/\¬a=1:=by omega
    unfold oA;rw[if_neg ZX.1,if_neg ZX.2.1,if_neg ZX.2.2.1,if_neg ZX.2.2.2,if_neg ha2.1,if_neg ha2.2,if_neg h2];by_cases h4:a < 8
    ·rw[if_pos h4]at h ⊢;simp at h;omega
    ·rw[if_neg h4]at h ⊢;have hle:=Zh ok (by omega) h;omega
theorem mM (cs:List eD) (a:Int):iy cs a a=true:=by simp[iy]
theorem Jq (p:Option Addr) (n c:Nat) (cs:List eD) (a b:Int) (h:Heap) (hcs:fP h (.slice p n c) cs) (ok:cI cs) (ha:0<=a/\a < 8+(cs.length:Int)) (hb:0<=b/\b < 8+(cs.length:Int)) :
  bI prog 217 [.slice p n c,.int .i64 a,.int .i64 b] h λv h'=>h'=h/\∃ r,v=.int .i64 r/\mo cs a r:=by
 have h1:=qe p n c cs a b h hcs ok ha.2 hb.2;have h2:=qe p n c cs b a h hcs ok hb.2 ha.2;have hc:=ok.2.1;have JS:=ok.1;refine bZ au func217 Yz YA rfl ?_;conv=>whnf
 refine aj h1 ?_;conv=>whnf
 apply eK<;>intro g1;all_goals conv=>whnf
 ·have hr:=Ph ok ha hb g1;refine⟨rfl,b,rfl,hb,hr.1,λhn=>hr.2 (λe=>?_)⟩;rw[e,mM]at hn;cases hn
 refine aj h2 ?_;conv=>whnf
 apply eK<;>intro g2;all_goals conv=>whnf
 ·exact⟨rfl,a,rfl,ha,Nat.le_refl _,λhn=>by rw[mM]at hn;cases hn⟩
 have zero:mo cs a 0:=by
  refine⟨⟨by omega,by omega⟩,by simp[oA],λhn=>?_⟩;have ha0:¬a=0:=λe=>by rw[e,mM]at hn;cases hn
  unfold oA;rw[if_pos rfl,if_neg ha0];split
  ·omega
  ·split
   ·omega
   ·split<;>omega
 refine aj (uZ _ _) ?_;conv=>whnf
 apply aT<;>intro g3;all_goals conv=>whnf
 ·exact⟨rfl,0,rfl,zero⟩
 refine aj (uZ _ _) ?_;conv=>whnf
 apply aT<;>intro g4;all_goals conv=>whnf
 ·exact⟨rfl,0,rfl,zero⟩
 have fO:b≠2:=λe=>by
  subst e;have:iy cs 2 a=true:=by
   unfold iy;by_cases hx:2=a\/a=0
   ·rw[if_pos hx]
   ·rw[if_neg hx,if_pos rfl];simp;omega
  rw[this]at g2;cases g2
 have ha2:a≠2:=λe=>by
  subst e;have:iy cs 2 b=true:=by
   unfold iy;by_cases hx:2=b\/b=0
   ·rw[if_pos hx]
   ·rw[if_neg hx,if_pos rfl];simp;omega
  rw[this]at g1;cases g1
 have eight:a < 8\/b < 8->mo cs a 8:=λhx=>by
  refine⟨⟨by omega,by omega⟩,?_,λhn=>?_⟩
  ·unfold oA;have:¬a=0/\¬a=1/\¬a=2:=by omega
   rw[if_neg this.1,if_neg this.2.1,if_neg this.2.2];simp;split<;>omega
  ·have ha8:a≠8:=λe=>by rw[e,mM]at hn;cases hn
   unfold oA;have:¬a=0/\¬a=1/\¬a=2:=by omega
   rw[if_neg this.1,if_neg this.2.1,if_neg this.2.2];simp;split<;>omega
 apply ax<;>intro g5;all_goals conv=>whnf
 ·exact⟨rfl,8,rfl,eight (.inl g5)⟩
 apply ax<;>intro g6;all_goals conv=>whnf
 ·exact⟨rfl,8,rfl,eight (.inr g6)⟩
 refine ah ?_;conv=>whnf
 refine ah ?_;conv=>whnf
 refine aC (Mg p n c cs (a-8) (b-8) h hcs ok (by omega) (by omega)) (λv h3 hh=>?_);have e3:=hh.1;subst e3;refine hh.2.elim λj hj=>?_;have hv:=hj.1;subst hv;have hj1:=hj.2.1;have hj2:=hj.2.2;conv=>whnf
 refine ah ?_;conv=>whnf
 refine⟨rfl,8+j,rfl,⟨by omega,by omega⟩,?_,λhn=>?_⟩
 ·unfold oA;have:¬a=0/\¬a=1/\¬a=2/\¬a < 8/\¬8+j=0/\¬8+j=1/\¬8+j=2/\¬8+j < 8:=by omega
  rw[if_neg this.1,if_neg this.2.1,if_neg this.2.2.1,if_neg this.2.2.2.1,if_neg this.2.2.2.2.1,if_neg this.2.2.2.2.2.1,if_neg this.2.2.2.2.2.2.1,if_neg this.2.2.2.2.2.2.2];omega
 ·have Ux:8+j≠a:=λe=>by rw[e,mM]at hn;cases hn
  unfold oA;have:¬a=0/\¬a=1/\¬a=2/\¬a < 8/\¬8+j=0/\¬8+j=1/\¬8+j=2/\¬8+j < 8:=by omega
  rw[if_neg this.1,if_neg this.2.1,if_neg this.2.2.1,if_neg this.2.2.2.1,if_neg this.2.2.2.2.1,if_neg this.2.2.2.2.2.1,if_neg this.2.2.2.2.2.2.1,if_neg this.2.2.2.2.2.2.2];omega
theorem tL.EJ {h h':Heap} {p:Option Addr} {n c:Nat} {l1 l2:List Int} {B1 B2:List Nat} {v2:Value} (s:tL h h' (.slice p n c) l1 B1 v2 l2 B2) {i:Nat} (hi:i < l1.length) :
  ∃ b,p=some ⟨b,0,none⟩/\rd h' b (0+i*1)=some (.int .i64 l1[i])/\∀(x:Int) (K:Heap->Prop),(∀ h2,tL h h2 (.slice p n c) (l1.set i x) B1 v2 l2 B2->K h2)->St h' b (0+i*1) [.int .i64 x] K:=by
 have tX:l1=l1.take i++l1[i]::l1.drop (i+1):=by simp
 have S9:cr 1 h' (.slice p n c) ((l1.take i).map bN++bN l1[i]::(l1.drop (i+1)).map bN) B1:=by
  have:=s.o1;unfold dR at this;rw[show l1.map bN=(l1.take i).map bN++bN l1[i]::(l1.drop (i+1)).map bN by rw[<-List.map_cons,<-List.map_append,<-tX]]at this;exact this
 obtain⟨bl,cl,pre,post,tl,hq,td,fV,_,hB,fe⟩:=S9.at;simp only[Z_]at hq;obtain⟨rfl,hn,rfl⟩:=hq;have lF:pre.length=i:=by rw[fV];simp;omega
 have hdn:bl ∉ B2:=λhx=>by
  have:=s.nd bl;have:=W_.2 hx;simp only[hB,Y_,X_,List.count_nil,beq_self_eq_true,if_true]at *;omega
 refine⟨bl,rfl,bE td (i:=0) (by omega) rfl,λx K hk=>?_⟩;refine Ag td (pre++bN x++post) (by simp[lF,bN]<;>omega) (m4 (x':=bN x) (by omega) rfl) (λh5 e5 g5=>hk h5 ⟨?_,?_,?_,s.nd,s.fr⟩)
 ·rw[e5];exact Heap.aP s.le (s.fr bl (by rw[hB];simp))
 ·have:=fe h5 (bN x) g5 rfl;unfold dR;rw[show(l1.set i x).map bN=(l1.take i).map bN++bN x::(l1.drop (i+1)).map bN by rw[List.set_eq_take_append_cons_drop,if_pos hi,List.map_append,List.map_cons]];rw[hB]at this ⊢;exact this
 ·exact s.o2.aJ λb hb o ho=>by
   have:b≠bl:=by rintro rfl;exact hdn hb
   rw[e5];simp only[Heap.set,this,if_false];exact ho
theorem tL.ZY {h h':Heap} {p:Option Addr} {n c:Nat} {l1 l2:List Int} {B1 B2:List Nat} {v1:Value} (s:tL h h' v1 l1 B1 (.slice p n c) l2 B2) {i:Nat} (hi:i < l2.length) :
  ∃ b,p=some ⟨b,0,none⟩/\rd h' b (0+i*1)=some (.int .i64 l2[i])/\∀(x:Int) (K:Heap->Prop),(∀ h2,tL h h2 v1 l1 B1 (.slice p n c) (l2.set i x) B2->K h2)->St h' b (0+i*1) [.int .i64 x] K:=by
 obtain⟨b,e,r,k⟩:=s.swap.EJ hi;exact⟨b,e,r,λx K hk=>k x K (λh2 s2=>hk h2 s2.swap)⟩
theorem H7 {K:Value->Heap->Prop} {E:List PanicEntry->Heap->Prop} {p:Option Addr} {n c:Nat} {cs:List eD} {a b:Int} {h:Heap} (hcs:fP h (.slice p n c) cs) (ok:cI cs) (ha:0<=a/\a < 8+(cs.length:Int)) (hb:0<=b/\b < 8+(cs.length:Int)) (hK:∀ r,mo cs a r->K (.int .i64 r) h):iF prog 217 [.slice p n c,.int .i64 a,.int .i64 b] h K E :=
 cX (Jq p n c cs a b h hcs ok ha hb) (λv h' hh=>by
  obtain⟨rfl,r,rfl,hr⟩:=hh;exact⟨z_ _,hK r hr⟩)
def Q2 (cs:List eD) (a r:dY):Prop:=r=mh\/(r.told=a.told/\r.locals.length=a.locals.length/\r.stack.length=a.stack.length/\(∀ i (h1:i < a.locals.length) (h2:i < r.locals.length),mo cs a.locals[i] r.locals[i])/\∀ i (h1:i < a.stack.length) (h2:i < r.stack.length),mo cs a.stack[i] r.stack[i])
def Aw (h:Heap) (v:Value) (r:dY):Prop:=∃ p1 c1 p2 c2,v=.agg #[.bool r.told,.slice p1 r.locals.length c1,.slice p2 r.stack.length c2]/\tq h r p1 p2 c1 c2
theorem Mh {h h':Heap} {v:Value} (hh:h.le h'/\∃ b1 b2,v=.agg #[.bool false,.slice (some ⟨b1,0,none⟩) 0 0,.slice (some ⟨b2,0,none⟩) 0 0]):h.le h'/\Aw h' v mh:=by
 obtain⟨hl,b1,b2,rfl⟩:=hh;exact⟨hl,_,_,_,_,rfl,iP _ _ _,iP _ _ _⟩
theorem mo.refl {cs:List eD} {a:Int} (ha:0<=a/\a < 8+(cs.length:Int)):mo cs a a:=⟨ha,Nat.le_refl _,λhn=>by rw[mM]at hn;cases hn⟩
theorem Jr (p:Option Addr) (n c:Nat) (cs:List eD) (s r:dY) (lp kp mp jp:Option Addr) (lc kc mc jc:Nat) (h:Heap) (hcs:fP h (.slice p n c) cs) (ok:cI cs) (hI:tq h s lp kp lc kc) (hJ:tq h r mp jp mc jc) (hl:s.locals.length<=r.locals.length) (gL:s.locals.length<=1000) (fO:s.stack.length<=1000)
  (kL:∀ t∈s.locals,0<=t/\t < 8+(cs.length:Int)) (Ak:∀ t∈s.stack,0<=t/\t < 8+(cs.length:Int)) (ur:∀ t∈r.locals,0<=t/\t < 8+(cs.length:Int)) (NU:∀ t∈r.stack,0<=t/\t < 8+(cs.length:Int)) :
  bI prog 214 [.slice p n c,.agg #[.bool s.told,.slice lp s.locals.length lc,.slice kp s.stack.length kc],.agg #[.bool r.told,.slice mp r.locals.length mc,.slice jp r.stack.length jc]] h λv h'=>h.le h'/\∃ x,Aw h' v x/\Q2 cs s x:=by
 have rQ:=wV s.told lp kp lc kc s.locals s.stack h hI.1 hI.2 (by omega) (by omega);have zi:=ok.2.1;have ZZ:∀ {t:Int},0<=t->t < 8+(cs.length:Int)->cY t:=λh0 h1=>by unfold cY;omega
 refine bZ au func214 Yv Yw rfl ?_;conv=>whnf
 refine aC rQ (λv h1 hh=>?_);refine hh.elim λq1 hh=>hh.elim λe1 hh=>hh.elim λq2 hh=>hh.elim λe2 hh=>hh.elim λB1 hh=>hh.elim λB2 hh=>?_;have hv:=hh.1;subst hv;have st:=hh.2;conv=>whnf
 apply aT<;>intro g;all_goals conv=>whnf
 ·refine aC (kM h1) (λv h2 hh=>?_);have hn:=Mh hh;refine hh.2.elim λb1 hb=>hb.elim λb2 hb=>?_;subst hb;conv=>whnf
  exact⟨y_ st.le hn.1,mh,hn.2,.inl rfl⟩
 have hk:s.stack.length=r.stack.length:=by omega
 refine fh [0,4,5,6,7,8] [4,5,6,7] (λx:Nat × Heap × List Int=>x.1<=s.locals.length/\x.2.2.length=s.locals.length/\tL h x.2.1 (.slice q1 s.locals.length e1) x.2.2 B1 (.slice q2 s.stack.length e2) s.stack B2/\∀ j (h1:j < s.locals.length) (h2:j < x.2.2.length),mo cs s.locals[j] x.2.2[j]) (λx=>s.locals.length-x.1)
  (λx=>([.v (.slice p n c),.l 4 0,.l 5 0,.l 6 0,.l 7 0,.v (.int .i64 x.1)],[some [.bool s.told,.slice lp s.locals.length lc,.slice kp s.stack.length kc],some [.bool r.told,.slice mp r.locals.length mc,.slice jp r.stack.length jc],some [.bool false,.slice none 0 0,.slice none 0 0],some [.bool s.told,.slice q1 s.locals.length e1,.slice q2 s.stack.length e2]],x.2.1))
  (0,h1,s.locals) ⟨by omega,rfl,st,λj h1 h2=>mo.refl (kL _ (x_ h1))⟩ rfl ?_
 rintro⟨i,h2,ll⟩ ⟨hi,tX,Tb,hg⟩;simp only at hi tX Tb hg ⊢;conv=>whnf
 apply ax<;>intro g2;all_goals conv=>whnf
 ·have bV:i < s.locals.length:=by omega
  have wD:i < r.locals.length:=by omega
  obtain⟨b1,o1,w1,a1⟩:=(hI.1.le Tb.le).at bV;obtain⟨b2,o2,w2,a2⟩:=(hJ.1.le Tb.le).at wD;obtain⟨b3,w3,_,put⟩:=Tb.EJ (i:=i) (by omega);have Tc:=hcs.le Tb.le (λ_ _ hx=>hx.le Tb.le);repeat' ((first|exact trivial|apply T_|refine aq ?_|refine aG w1 ?_|refine aG w2 ?_|refine aG w3 ?_|refine ld a1 ?_|refine ld a2 ?_|refine H7 Tc ok (kL _ (x_ bV)) (ur _ (x_ wD)) (λx hx=>?_))<;>conv=>whnf)
  all_goals
   refine put x _ (λh3 Mi=>?_);conv=>whnf
   refine ah ?_;conv=>whnf
   refine dm (i+1,h3,ll.set i x) ⟨by simp only;omega,by simpa using tX,Mi,λj h1 h2=>?_⟩ (by simp only;omega) rfl;simp only;rw[List.getElem_set];split
   ·rename_i e;subst e;exact hx
   ·exact hg j h1 (by simpa using h2)
 ·have mB:i=s.locals.length:=by omega
  subst mB;refine fh [0,4,5,6,7,9] [4,5,6,7] (λx:Nat × Heap × List Int=>x.1<=s.stack.length/\x.2.2.length=s.stack.length/\tL h x.2.1 (.slice q1 s.locals.length e1) ll B1 (.slice q2 s.stack.length e2) x.2.2 B2/\∀ j (h1:j < s.stack.length) (h2:j < x.2.2.length),mo cs s.stack[j] x.2.2[j]) (λx=>s.stack.length-x.1)
   (λx=>([.v (.slice p n c),.l 4 0,.l 5 0,.l 6 0,.l 7 0,.v (.int .i64 x.1)],[some [.bool s.told,.slice lp s.locals.length lc,.slice kp s.stack.length kc],some [.bool r.told,.slice mp r.locals.length mc,.slice jp r.stack.length jc],some [.bool false,.slice none 0 0,.slice none 0 0],some [.bool s.told,.slice q1 s.locals.length e1,.slice q2 s.stack.length e2]],x.2.1))
   (0,h2,s.stack) ⟨by omega,rfl,Tb,λj h1 h2=>mo.refl (Ak _ (x_ h1))⟩ rfl ?_
  rintro⟨i,h3,kl⟩ ⟨hi,GF,Mi,hgk⟩;simp only at hi GF Mi hgk ⊢;conv=>whnf
  apply ax<;>intro g2;all_goals conv=>whnf
  ·have bV:i < s.stack.length:=by omega
   have wD:i < r.stack.length:=by omega
   obtain⟨b1,o1,w1,a1⟩:=(hI.2.le Mi.le).at bV;obtain⟨b2,o2,w2,a2⟩:=(hJ.2.le Mi.le).at wD;obtain⟨b3,w3,_,put⟩:=Mi.ZY (i:=i) (by omega);have Tc:=hcs.le Mi.le (λ_ _ hx=>hx.le Mi.le);repeat' ((first|exact trivial|apply T_|refine aq ?_|refine aG w1 ?_|refine aG w2 ?_|refine aG w3 ?_|refine ld a1 ?_|refine ld a2 ?_|refine H7 Tc ok (Ak _ (x_ bV)) (NU _ (x_ wD)) (λx hx=>?_))<;>conv=>whnf)
   all_goals
    refine put x _ (λh4 st4=>?_);have acY:∀ j (h1:j < s.stack.length) (h2:j < (kl.set i x).length),mo cs s.stack[j] (kl.set i x)[j]:=λj h1 h2=>by
     rw[List.getElem_set];split
     ·rename_i e;subst e;exact hx
     ·exact hgk j h1 (by simpa using h2)
    have acZ:i < (kl.set i x).length:=by simp;omega
    refine(st4.ZY acZ).elim λb4 hp=>?_;have w4:=hp.1;have r4:=hp.2.1;conv=>whnf
    repeat' ((first|refine aG w4 ?_|refine ld r4 ?_|refine aq ?_|refine ah ?_|refine ptr ?_)<;>conv=>whnf)
    apply ax<;>intro g0;all_goals conv=>whnf
    ·refine aC (kM h4) (λv h5 hh=>?_);have hn:=Mh hh;refine hh.2.elim λb1 hb=>hb.elim λb2 hb=>?_;subst hb;conv=>whnf
     exact⟨y_ st4.le hn.1,mh,hn.2,.inl rfl⟩
    ·refine ah ?_;conv=>whnf
     exact dm (i+1,h4,kl.set i x) ⟨by simp only;omega,by simpa using GF,st4,acY⟩ (by simp only;omega) rfl
  ·have mB:i=s.stack.length:=by omega
   subst mB;have il:∀ t∈ll,cY t:=λt ht=>by
    obtain⟨j,hj,rfl⟩:=List.mem_iff_getElem.1 ht;have:=(hg j (by omega) hj).1;exact ZZ this.1 this.2
   have ik:∀ t∈kl,cY t:=λt ht=>by
    obtain⟨j,hj,rfl⟩:=List.mem_iff_getElem.1 ht;have:=(hgk j (by omega) hj).1;exact ZZ this.1 this.2
   have r1:=(fm Mi.o1 (by omega) il).2;have r2:=(fm Mi.o2 (by omega) ik).2;refine⟨Mi.le,⟨s.told,ll,kl⟩,⟨q1,e1,q2,e2,?_,r1,r2⟩,.inr ⟨rfl,tX,GF,hg,hgk⟩⟩;show _=Value.agg #[.bool s.told,.slice q1 ll.length e1,.slice q2 kl.length e2];rw[tX,GF]
end Go.Proofs
