/- Lemmas. -/
import Derived.Calls
import Derived.KernelRfl
import Derived.Laws.Sem
import Derived.Deep.Quiet
import Derived.Scope
import Derived.Orders
import Derived.Below
import Derived.Laws.StructEq
import Derived.Laws.Cover3
import Derived.Defers
import Derived.Recover
import Derived.Test.YtcenghjfipkgmaaGreatProg
import Derived.Test.YtcenghjfipkgmaaGreatMb11
set_option linter.unusedSimpArgs false
set_option linter.unusedVariables false
namespace Go.Vc
set_option linter.constructorNameAsVariable false
set_option linter.unusedSimpArgs false
set_option linter.unusedVariables false
section
variable {P:Program} {S:oD} (hS:dQ P S)
include hS
end
variable {D:List Deferred} {n:Nat} {h0:Heap} {w0:World} {β:Nat->Nat} {e:Env} {h:Heap} {a:Act} {w:World}
variable {P:Program} {S:oD} {o:Oper} {K:Slot->Bx->Heap->Prop} {E:List PanicEntry->Heap->Prop}
set_option linter.constructorNameAsVariable false
set_option linter.unusedVariables false
variable {D:List Deferred} {P:Program} {S:oD} {n:Nat} {h0:Heap} {w0:World} {β:Nat->Nat} {e:Env} {h:Heap} {a:Act} {w:World}
set_option linter.unusedSimpArgs false
variable {D:List Deferred} {P:Program} {S:oD} {F:Fs} {o:Oper} {e:Env} {h:Heap} {K:Slot->Bx->Heap->Prop} {E:List PanicEntry->Heap->Prop}
open Go.RowKit
variable {P:Program} {f:FuncId} {args:List Value} {h:Heap} {K:Value->Heap->Prop} {E:List PanicEntry->Heap->Prop} {R:Value->Heap->Prop} {w:World}
variable {P:Program} {h:Heap} {e:Env} {Kr:Value->Heap->Prop} {dst:Option Nat} {ty t kt et:TypeId} {pos:String} {af:Array Edge} {g:Option (Nat × Bool)} {m k x:Operand} {b:Nat} {n:Int} {l:List (Int × Value)} {v:Value}
variable {P:Program}
variable {h:Heap} {e:Env} {dst:Option Nat} {t u ty:TypeId} {x y:Operand} {pos:String} {af:Array Edge} {g:Option (Nat × Bool)}
variable {P:Program} {S:oD} {h:Heap} {e:Env} {dst:Option Nat} {t u el ty:TypeId} {x y:Operand} {pos:String} {af:Array Edge} {g:Option (Nat × Bool)}
end Go.Vc
namespace Go.Proofs
open Go.Vc Go.Proofs.Tryz
def Tryz.ac2:Fs:={L:=[3,4,5,6,7,10,11],LL:=[31,32,33,43,46,47,48,84,90,92,97,99,110,112,117,119],cq:=[(6,[0,1,2,3,4,5,6,7,8,9,10,11,12,13,14]),(7,[0,1,2,3,4,5]),(16,[0,1,2,3,4,5,6,7,9,8,10,11,12,13,14,16,22,23,15,17,18,19,20,21,24,25,26,27,29,34,36,28,30,31,32,33,35,37,38,39,40,41,42,43,44,45])]}
theorem Tryz.ok3:aL ac2 Tryz.f3 1=true:=by kernel_rfl
set_option maxRecDepth 100000
set_option maxHeartbeats 4000000
set_option maxHeartbeats 40000000
instance (x:Sx):Decidable x.bad:=inferInstanceAs (Decidable (_\/_))
variable {α:Type} {sz:Nat} {R:Heap->List Value->α->Prop} {h0 h h':Heap} {b c:Nat} {A:List α}
section
variable {gB g g':Heap} {l1 l2:List Int} {p1 p2:Option Addr} {c1 c2:Nat} {B1 B2:List Nat} {bb:Nat} {vb:Value} {q0 q:Int}
end
open Go.Vc Go.Proofs.Tryz
set_option maxRecDepth 100000
set_option maxHeartbeats 4000000
section
variable {gB g g':Heap} {code:List ez} {pc:Option Addr} {cc:Nat} {Bc:List Nat} {el:List Int} {pe:Option Addr} {ce:Nat} {Be:List Nat} {ks:List nK} {kv:Value} {Bk:List Nat}
end
open Go.Vc Go.Proofs.Tryz
set_option maxRecDepth 100000
set_option maxHeartbeats 4000000
section
variable {g0 g g1:Heap} {cp:Option Addr} {cc:Nat} {cs:List eD} {bm cm:Nat} {aS:List (List Value)} {A:List cL} {k bb:Nat} {vb:Value} {q0 q:Int} {K:Heap->Prop}
end
open Go.Vc Go.Proofs.Tryz
set_option maxRecDepth 100000
set_option maxHeartbeats 4000000
section
variable {g2 g3:Heap} {bb:Nat} {R:bM} {po pf pw:Option Addr} {co cf cw:Nat} {B1 B2 B3:List Nat}
end
open Go.Vc Go.Proofs.Tryz
set_option maxRecDepth 100000
set_option maxHeartbeats 4000000
section
variable {h:Heap} {bu bm b5 b6:Nat} {p q po pf ps:Option Addr} {cc d co cf cs:Nat} {u:aO} {M:bM}
end
open Go.Vc Go.Proofs.Tryz
set_option maxRecDepth 100000
set_option maxHeartbeats 4000000
theorem aeb {P:Program} {t:TypeId} {f0 f1:Field} {k':IntKind} (a a':Bool) (c c':Int) (h3:P.underlying t=some (.struct #[f0,f1])) (h4:P.stoodInHeld t=false) (qP:f0.name≠ "_") (AX:f1.name≠ "_") (h5:P.underlying f0.type=some .bool) (h6:P.underlying f1.type=some (.int k'))
  (EO:∀(a:Bool) (c:Int) (w:World),(part f0.type #[.bool a,.int .i64 c] f0.offset).run P w=.ok (.bool a) w) (xK:∀(a:Bool) (c:Int) (w:World),(part f1.type #[.bool a,.int .i64 c] f1.offset).run P w=.ok (.int .i64 c) w) (w:World) :
  (Go.binOp .neq t (.agg #[.bool a,.int .i64 c]) (.agg #[.bool a',.int .i64 c'])).run P w=.ok (.bool (!(a==a'&&c==c'))) w:=by
 have hf:P.fieldsOf t = #[f0,f1]:=by simp[Program.fieldsOf,h3]
 have e1:(Op.equalIn (9999+1) t (.agg #[.bool a,.int .i64 c]) (.agg #[.bool a',.int .i64 c'])).run P w=.ok (a==a'&&c==c') w:=by
  rw[run_equalIn_struct w 9999 t _ _ (by rw[hf];exact h3) h4,hf];simp only[Op.eqFields,qP,AX,ne_eq,not_false_eq_true,if_true,Sem.run_bind,EO,xK,Result.andThen_ok];rw[show(9999:Nat)=9998+1 from rfl,run_equalIn_bool' w 9998 f0.type a a' h5];by_cases ha:a=a'
  ·subst ha;simp only[Result.andThen_ok,beq_self_eq_true,Bool.not_true,Bool.false_eq_true,if_false,Sem.run_bind,xK];rw[run_equalIn_int w 9998 f1.type .i64 k' c c' h6];by_cases hc:c=c'<;>simp[hc]
  ·have:(a==a')=false:=by simpa using ha
   simp[this]
 have e3:(Op.equal t (.agg #[.bool a,.int .i64 c]) (.agg #[.bool a',.int .i64 c'])).run P w=.ok (a==a'&&c==c') w:=e1;rw[show Go.binOp .neq t (.agg #[.bool a,.int .i64 c]) (.agg #[.bool a',.int .i64 c'])=(do pure (.bool (!(<-Op.equal t (.agg #[.bool a,.int .i64 c]) (.agg #[.bool a',.int .i64 c'])))))from rfl];simp only[Sem.run_bind,e3,Result.andThen_ok,Sem.run_pure]
theorem ad9 (x y:Vl) (b:Bool) (hb:b = !(x.ref==y.ref&&x.n==y.n)) (w:World):(Go.binOp .neq 31 (.agg #[.bool x.ref,.int .i64 x.n]) (.agg #[.bool y.ref,.int .i64 y.n])).run prog w=.ok (.bool b) w:=by
 subst hb;refine aeb _ _ _ _ rfl ?_ ?_ ?_ rfl rfl ?_ ?_ w
 ·kernel_rfl
 ·decide
 ·decide
 ·intro a c w;rfl
 ·intro a c w;rfl
theorem aec {x y:Vl}:(x.ref==y.ref&&x.n==y.n)=true↔x=y:=by
 obtain⟨r,n⟩:=x;obtain⟨s,m⟩:=y;simp
theorem aea (v w:Value) (l k:List Vl) (h:Heap) (hv:Row 2 G7 h v l) (hw:Row 2 G7 h w k):Pure prog 15 [v,w] h (tf (l=k)):=by
 obtain⟨p,c,rfl,hc,hn⟩:=hv.len;obtain⟨q,d,rfl,hd,_⟩:=hw.len;refine jh au func15 F15 aa0 rfl ?_;conv=>whnf
 apply aT<;>intro g;all_goals conv=>whnf
 ·exact⟨bY (λhx=>by subst hx;omega),z_ h⟩
 have Dl:l.length=k.length:=by omega
 refine fh [0,1,5] [] (λi:Nat=>i<=l.length/\∀ j (h1:j < l.length) (h2:j < k.length),j < i->l[j]=k[j]) (λi=>l.length-i)
  (λi=>([.v (.slice p l.length c),.v (.slice q k.length d),.v (.int .i64 i)],[],h)) 0 ⟨Nat.zero_le _,λ_ _ _ h=>absurd h (by omega)⟩ rfl ?_
 rintro i ⟨hi,hj⟩;conv=>whnf
 apply ax<;>intro g;all_goals conv=>whnf
 ·have bV:i < l.length:=by omega
  have hik:i < k.length:=by omega
  obtain⟨b,off,vs,hp,e1,e2⟩:=hv.get bV;obtain⟨b',eJ,ws,hq,d1,d2⟩:=hw.get hik;obtain rfl:=e2;obtain rfl:=d2;by_cases he:l[i]=k[i]
  ·repeat' ((first|refine aG hp ?_|refine aG hq ?_|refine dJ e1 ?_|refine dJ d1 ?_|refine ah ?_|refine aq ?_)<;>conv=>whnf)
   refine Is rfl rfl (λw=>by simp[eqGuard]) (λw=>ad9 _ _ false (by rw[aec.2 he];rfl) w) ?_;conv=>whnf
   refine ah ?_;conv=>whnf
   exact dm (i+1) ⟨by omega,λj h1 h2 h3=>by
    by_cases jj:j=i
    ·subst jj;exact he
    ·exact hj j h1 h2 (by omega)⟩ (by omega) rfl
  ·have hf:(l[i].ref==k[i].ref&&l[i].n==k[i].n)=false:=by
    cases hx:(l[i].ref==k[i].ref&&l[i].n==k[i].n)
    ·rfl
    ·exact absurd (aec.1 hx) he
   repeat' ((first|refine aG hp ?_|refine aG hq ?_|refine dJ e1 ?_|refine dJ d1 ?_|refine ah ?_|refine aq ?_)<;>conv=>whnf)
   refine Is rfl rfl (λw=>by simp[eqGuard]) (λw=>ad9 _ _ true (by rw[hf];rfl) w) ?_;conv=>whnf
   exact⟨bY (λhx=>he (by subst hx;rfl)),z_ h⟩
 ·exact⟨dZ (List.ext_getElem Dl λj h1 h2=>hj j h1 h2 (by omega)),z_ h⟩
section
variable {u u':aO}
end
open Go.Vc Go.Proofs.Tryz
set_option maxRecDepth 100000
set_option maxHeartbeats 4000000
section
variable {u u':aO}
end
open Go.Vc Go.Proofs.Tryz
set_option maxRecDepth 100000
set_option maxHeartbeats 4000000
theorem tC.new {u:aO} {M:bM} {f:bQ} (t:tC u M f) (hk:(hY u f).kind=12):(fB u M).objs=M.objs++[⟨(hY u f).a,(dw u.J (hY u f).a).map nothing⟩]/\(fB u M).ag=M.ag.dropLast++[{f with stack:=f.stack++[⟨true,M.objs.length+1⟩],pc:=f.pc+1}]:=by
 obtain⟨AW,hl,ha,nx,hs⟩:=t.step;have h4:f.stack.length < 4:=by
  unfold stepT wW at hs;simp[hk,jo]at hs;omega
 have ht:ee u (hY u f) f.stack=some ([],f.stack):=by
  have aed:di u (hY u f)=some []:=by unfold di;simp[hk]
  unfold ee;rw[aed];simp[jD]
 rw[t.eq,t.do_ ht,if_neg (by omega)];unfold gG bD sZ dH;simp[hk,h4]
theorem ad8 (v:Value) (n:Nat) (h:Heap) (hB:Bytes h v n) (hn:n<=140737488355328) (hy:TG h):Pure prog 3 [v] h (.bool true):=by
 have hB0:=hB;obtain⟨p,c,rfl,hc,_⟩:=hB;refine jh au func3 ac2 ok3 rfl ?_;conv=>whnf
 apply ax<;>intro g;all_goals conv=>whnf
 ·exact⟨rfl,z_ h⟩
 refine aC (M9 _ n h hB0 (by omega) hy) ?_;rintro v0 h0 ⟨l0,hA⟩;refine UF.elim hA λpc n1 cc pm n2 cm u po co pf cf pw cw M B0 hv hu o0 sm=>?_;subst hv;have hM0:=o0.read sm.small;have hQ0:=o0.adz sm.small.ads;obtain⟨R,EF⟩:=UN u M;have ti:=EF.ads;unfold nI ay at o0 hM0 hQ0 ⊢;conv=>whnf
 refine aC (Rr _ _ u M h0 hu hM0 hQ0 R EF) ?_;rintro v1 h1 ⟨l1,m1,B1,rfl,o1,n1,f1⟩;obtain⟨ad3,do_,ad2,df,ad4,adZ,rfl⟩:=o1.nI;unfold nI ay at o1 ⊢;conv=>whnf
 refine aC (aaH _ _ u M h1 (hu.le l1) (hQ0.le l1)) ?_;rintro v2 h2 ⟨l2,hT⟩;have HL:=y_ l1 l2;rcases hT with rfl|⟨f,p1,c1,p2,c2,tp,rfl,y1,y2⟩
 ·conv=>whnf
  refine cX (Rt _ _ u M h2 (hu.le HL) (hM0.le HL) (hQ0.le HL) R EF) (λv2 h3 hh=>?_);obtain⟨l3,m2,B2,rfl,o2,n2,f2⟩:=hh;obtain⟨_,_,_,_,_,_,rfl⟩:=o2.nI;refine⟨l3,?_⟩;unfold nI ay at o2 ⊢;have l13:=y_ HL l3;have l23:=y_ l2 l3;conv=>whnf
  refine aK (aaB _ _ R h3 ((o1.aJ (cR.of_le l23 _)).adz ti) (o2.adz ti)) ?_;conv=>whnf
  refine cX (Rt _ _ u M h3 (hu.le l13) (hM0.le l13) (hQ0.le l13) R EF) (λv3 g3 hh=>?_);obtain⟨l3,ad1,B3,rfl,o3,n3,f3⟩:=hh;obtain⟨_,_,_,_,_,_,rfl⟩:=o3.nI;refine⟨l3,?_⟩;unfold nI ay at o3 ⊢;conv=>whnf
  refine aK (aaB _ _ R g3 ((o1.aJ (cR.of_le (y_ l23 l3) _)).adz ti) (o3.adz ti)) ?_;conv=>whnf
  exact⟨rfl,y_ l0 (y_ l13 l3)⟩
 ·conv=>whnf
  refine cX (Rt _ _ u M h2 (hu.le HL) (hM0.le HL) (hQ0.le HL) R EF) (λv2 h3 hh=>?_);obtain⟨l3,m2,B2,rfl,o2,n2,f2⟩:=hh;obtain⟨_,_,_,_,_,_,rfl⟩:=o2.nI;refine⟨l3,?_⟩;unfold nI ay at o2 ⊢;have l13:=y_ HL l3;have l23:=y_ l2 l3;have l03:=y_ l0 l13;have oq:=(o1.aJ (cR.of_le l23 _)).adz ti;conv=>whnf
  refine aK (aaB _ _ R h3 oq (o2.adz ti)) ?_;conv=>whnf
  have hRs:=EF.1 ⟨tp.fit.unit,tp.fit.ok⟩;have hlen:=tp.fit.ok.len;have Eh:=tp.fit.ok.nf;have hnk:=tp.frW.2.2.2.1;apply aT<;>intro g1;all_goals conv=>whnf
  ·skip
   refine cX (Rt _ _ u M h3 (hu.le l13) (hM0.le l13) (hQ0.le l13) R EF) (λv3 g3 hh=>?_);obtain⟨l3,ad1,B3,rfl,o3,n3,f3⟩:=hh;obtain⟨_,_,_,_,_,_,rfl⟩:=o3.nI;refine⟨l3,?_⟩;unfold nI ay at o3 ⊢;conv=>whnf
   refine aK (aaB _ _ R g3 ((o1.aJ (cR.of_le (y_ l23 l3) _)).adz ti) (o3.adz ti)) ?_;conv=>whnf
   exact⟨rfl,y_ l0 (y_ l13 l3)⟩
  obtain⟨e1,e2⟩:=tp.new g1;rw[<-hRs]at e1 e2;obtain⟨L,hL,hL0⟩:∃ L,(dw u.J (hY u f).a).map nothing=L/\∀ v∈L,v.n=0:=⟨_,rfl,λv hv=>by
   obtain⟨t,_,rfl⟩:=List.mem_map.1 hv;rfl⟩
  rw[hL]at e1;have gz:=tp.ag;obtain⟨k,hk⟩:∃ k,M.ag.length=k+1:=⟨M.ag.length-1,by rw[gz];simp⟩
  have DA:M.ag.dropLast.length=k:=by simp[hk]
  have hR1:R.objs.length=M.objs.length+1:=by rw[e1];simp
  have hR2:R.ag.length=k+1:=by rw[e2];simp[hk]
  have bV:M.objs.length < R.objs.length:=by omega
  have Nz:k < R.ag.length:=by omega
  have GF:k < M.ag.length:=by omega
  have ho:R.objs[M.objs.length]=⟨(hY u f).a,L⟩:=by simp only[e1];simp
  have hg:R.ag[k] = {f with stack:=f.stack++[⟨true,M.objs.length+1⟩],pc:=f.pc+1}:=by simp only[e2];simp[<-DA]
  have hm:M.ag[k]=f:=by
   have:=tp.last;rw[List.getLast?_eq_getElem?,hk,Nat.add_sub_cancel,w_ GF]at this;simpa using this
  have Di:=ti.ob _ (x_ bV);rw[ho]at Di;unfold Ip BH at Di;simp only at Di;obtain⟨vo,vf,vs,ad0,x1,x2,x3⟩:=oq;simp only[ay,List.cons.injEq,and_true]at ad0;obtain⟨rfl,rfl,rfl⟩:=ad0;obtain⟨vo,vf,vs,ad0,w1,w2,w3⟩:=hQ0.le l13;simp only[ay,List.cons.injEq,and_true]at ad0;obtain⟨rfl,rfl,rfl⟩:=ad0;obtain⟨b1,of1,xs,s9,r1,a1⟩:=x1.get bV;obtain⟨b2,of2,ys,wA,r2,a2⟩:=x2.get Nz;obtain⟨b3,of3,zs,hq3,r3,a3⟩:=w2.get GF;rw[ho]at a1;rw[hg]at a2;rw[hm]at a3;obtain⟨v1,rfl,y3⟩:=a1;obtain⟨v2,v3,rfl,y4,ad5⟩:=a2;obtain⟨v4,v5,rfl,ad6,ad7⟩:=a3;simp only at y3 y4 ad5 ad6 ad7;obtain⟨pv,cv,rfl,_,_⟩:=y3.len;obtain⟨pg,cg,rfl,_,_⟩:=y4.len;obtain⟨ps,cs,rfl,hcs,_⟩:=ad5.len;obtain⟨pl,cl,rfl,_,_⟩:=ad6.len;obtain⟨pk,ck,rfl,_,_⟩:=ad7.len;obtain⟨N,hN,hN'⟩:∃ N:Int,((M.objs.length+1:Nat):Int)=N/\(M.objs.length:Int)+1=N:=⟨_,rfl,rfl⟩
  have hv:∀ w,(Go.binOp .eql 31 (.agg #[.bool true,.int .i64 N]) (.agg #[.bool true,.int .i64 N])).run prog w=.ok (.bool true) w:=λw=>by
   have:=Na ⟨true,N⟩ ⟨true,N⟩ w;simpa using this
  rw[hR1,hR2,hk];refine ah ?_;conv=>whnf
  rw[show((k+1:Nat):Int)-1=(k:Nat)by omega];refine aq ?_;conv=>whnf
  refine aG wA ?_;conv=>whnf
  refine dJ r2 ?_;conv=>whnf
  refine ah ?_;conv=>whnf
  rw[show((M.objs.length+1:Nat):Int)-1=(M.objs.length:Nat)by omega,hN];refine aq ?_;conv=>whnf
  refine aG s9 ?_;conv=>whnf
  refine dJ r1 ?_;conv=>whnf
  refine fh [4,7,9,10,11,12] [4,7,10,11] (λs:Nat=>s<=L.length) (λs=>L.length-s)
   (λs=>([.l 4 0,.l 7 0,.v (.int .i64 N),.l 10 0,.l 11 0,.v (.int .i64 s)],[some [.slice po M.objs.length co,.slice pf (k+1) cf,.slice pw M.said.length cw,.int .i64 M.steps,.int .i64 M.fin,.bool M.out.ref,.int .i64 M.out.n],some [.int .i64 (hY u f).kind,.int .i64 (hY u f).a,.int .i64 (hY u f).b],some [.int .i64 f.U,.int .i64 (f.pc+1),.slice pg f.locals.length cg,.slice ps (f.stack++[(⟨true,M.objs.length+1⟩:Vl)]).length cs],some [.int .i64 (hY u f).a,.slice pv L.length cv]],h3)) 0 (Nat.zero_le _) rfl ?_
  rintro l tX;simp only at tX ⊢;conv=>whnf
  apply ax<;>intro g;all_goals conv=>whnf
  ·have ji:l < L.length:=by omega
   obtain⟨b4,of4,us,hq4,r4,a4⟩:=y3.get ji;subst a4;have z1:=aE r4 (i:=1) rfl;rw[hL0 _ (x_ ji)]at z1;repeat' ((first|refine aG hq4 ?_|refine aq ?_|refine ld z1 ?_|apply And.intro|exact trivial)<;>conv=>whnf)
   refine ah ?_;conv=>whnf
   exact dm (l+1) (by omega) (by omega) rfl
  ·have I8:f.stack.length < (f.stack++[(⟨true,M.objs.length+1⟩:Vl)]).length:=by simp
   have aee:(f.stack++[(⟨true,M.objs.length+1⟩:Vl)]).length=f.stack.length+1:=by simp
   obtain⟨b5,of5,us,hq5,r5,a5⟩:=ad5.get I8;rw[show(f.stack++[(⟨true,M.objs.length+1⟩:Vl)])[f.stack.length]=⟨true,M.objs.length+1⟩by simp]at a5;subst a5;simp only[hN']at r5;have z3:=aE r3 (i:=3) rfl;have kv:=aea _ _ _ _ h3 (Nm ad5 (k:=f.stack.length) (by omega)) ad7;rw[fk (by simp)]at kv;rw[aee]at hcs ⊢;have hz:((f.stack.length+1:Nat):Int)-1=(f.stack.length:Nat):=by omega
   refine ah ?_;conv=>whnf
   refine cx ?_;conv=>whnf
   refine gI rfl ?_;conv=>whnf
   refine ah ?_;conv=>whnf
   rw[hz];refine aq ?_;conv=>whnf
   refine aG hq5 ?_;conv=>whnf
   refine dJ r5 ?_;conv=>whnf
   refine Is rfl rfl (λw=>by simp[eqGuard]) (λw=>hv w) ?_;conv=>whnf
   refine ah ?_;conv=>whnf
   rw[hz];refine aq ?_;conv=>whnf
   refine ah ?_;conv=>whnf
   rw[show((k+1:Nat):Int)-1=(k:Nat)by omega];refine aq ?_;conv=>whnf
   refine aG hq3 ?_;conv=>whnf
   refine ld z3 ?_;conv=>whnf
   rw[Int.toNat_natCast];refine aK kv ?_;conv=>whnf
   exact⟨rfl,l03⟩
theorem FnStepNew_c (v:Value) (n:Nat) (h:Heap) (hB:Bytes h v n) (hn:n<=140737488355328):Pure prog 3 [v] h (.bool true):=by
 obtain⟨hs,hl,hb,hy⟩:=Rn hB;exact aaC hl (ad8 v n hs hb hn hy)
end Go.Proofs
