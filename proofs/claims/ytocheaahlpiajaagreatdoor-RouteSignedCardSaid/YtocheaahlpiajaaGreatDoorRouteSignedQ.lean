/- RouteSigned: for every input the law answers true and leaves its arguments as they were. -/
import Derived.Test.YtocheaahlpiajaaGreatDoorRouteSignedP
set_option linter.unusedVariables false
set_option linter.unusedSimpArgs false
namespace Go.Rtp
open Go.Gsp Go.Nsp Go.Msp Go.Proofs.YtocheaahlpiajaaGreatDoor
structure TP {α:Type}(c:α->α->Int):Prop where
  anti:∀x y,c y x= -(c x y)
  trans:∀x y z,c x y<=0->c y z<=0->c x z<=0
theorem TP.refl {α:Type}{c:α->α->Int}(h:TP c)(x:α):c x x=0:=by have:=h.anti x x;omega
theorem TP.lex {α:Type}{c d:α->α->Int}(h:TP c)(k:TP d):TP (fun x y=>if c x y≠0 then c x y else d x y):=by
  refine⟨fun x y=>?_,fun x y z b e=>?_⟩
  · have:=h.anti x y
    have:=k.anti x y
    split<;>split<;>omega
  · have f:=h.trans x y z
    have i:=h.trans y z x
    have j:=h.trans z x y
    have l:=h.anti x y
    have m:=h.anti y z
    have n:=h.anti x z
    have:=k.trans x y z
    split at b<;>split at e<;>split<;>omega
theorem TP.comap {α β:Type}{c:β->β->Int}(h:TP c)(f:α->β):TP (fun x y=>c (f x) (f y)):=⟨fun _ _=>h.anti _ _,fun _ _ _=>h.trans _ _ _⟩
theorem TP.flip {α:Type}{c:α->α->Int}(h:TP c):TP (fun x y=>c y x):=⟨fun _ _=>h.anti _ _,fun x y z b d=>h.trans z y x d b⟩
theorem TP.cmpI:TP cmpI:=⟨fun x y=>by unfold Gsp.cmpI;(repeat' split);all_goals omega,fun x y z=>by unfold Gsp.cmpI;(repeat' split);all_goals omega⟩
theorem cmpF_anti (a b:Fr):cmpF b a= -(cmpF a b):=by
  unfold cmpF cmpN
  (repeat' split);all_goals omega
theorem cmpF_le {a b:Fr}:cmpF a b<=0↔leF a b:=by
  have c:=cmpF_pos (a:=a) (b:=b)
  have d:=ltF_not (a:=b) (b:=a)
  constructor
  · intro h;exact Decidable.not_not.1 (fun hh=>by have:=c.2 (d.2 hh);omega)
  · intro h;exact Int.not_lt.1 (fun hh=>d.1 (c.1 hh) h)
theorem TP.cmpF:TP (fun x y:Fr=>cmpF (takF x) (takF y)):=
  ⟨fun x y=>cmpF_anti _ _,fun x y z b c=>cmpF_le.2 (leF_trans (takF_ok y).1 (cmpF_le.1 b) (cmpF_le.1 c))⟩
theorem rowsC_anti:∀xs ys:List Gsp.Edge,rowsC ys xs= -(rowsC xs ys)
  |[],[]=>rfl
  |[],_::_=>rfl
  |_::_,[]=>rfl
  |x::xs,y::ys=>by
    have h1:=TP.cmpI.anti x.c y.c
    have b:=rowsC_anti xs ys
    unfold rowsC
    split<;>split<;>omega
theorem rowsC_trans:∀xs ys zs:List Gsp.Edge,rowsC xs ys<=0->rowsC ys zs<=0->rowsC xs zs<=0
  |[],_,[],_,_=>Int.le_refl _
  |[],_,_::_,_,_=>(by decide:(-1:Int)<=0)
  |x::xs,[],_,h,_=>absurd h (by show¬(1:Int)<=0;decide)
  |x::xs,y::ys,[],_,h=>absurd h (by show¬(1:Int)<=0;decide)
  |x::xs,y::ys,z::zs,h,k=>by
    unfold rowsC at h k ⊢
    have a1:=TP.cmpI.trans x.c y.c z.c
    have b:=TP.cmpI.trans y.c z.c x.c
    have d:=TP.cmpI.trans z.c x.c y.c
    have e:=TP.cmpI.anti x.c y.c
    have f:=TP.cmpI.anti y.c z.c
    have i:=TP.cmpI.anti x.c z.c
    have:=rowsC_trans xs ys zs
    split at h<;>split at k<;>split<;>omega
theorem TP.rowsC:TP rowsC:=⟨rowsC_anti,rowsC_trans⟩
def ordB (u v:Fnd):Int:=orL [cmpF (takF v.odds) (takF u.odds),cmpI u.sent v.sent,rowsC u.way v.way]
theorem TP.ordB:TP ordB:=by
  have h:=(TP.cmpF.flip.comap Fnd.odds).lex ((TP.cmpI.comap Fnd.sent).lex (TP.rowsC.comap Fnd.way))
  refine⟨fun x y=>?_,fun x y z d f=>?_⟩
  · have:=h.anti x y
    unfold Rtp.ordB
    simp only[orL]
    repeat' split
    all_goals (repeat' split at this)
    all_goals omega
  · have:=h.trans x y z
    unfold Rtp.ordB at*
    simp only[orL]at*
    have e:∀a b c:Int,(if a≠0 then a else if b≠0 then b else if c≠0 then c else 0)=(if a≠0 then a else if b≠0 then b else c):=by
      intro a b c;(repeat' split);all_goals omega
    rw[e]at*
    exact this d f
theorem better_iff {u v:Fnd}:betterR u v=true↔ordB u v<0:=decide_eq_true_iff
def aN (m:MF)(xs:List Gsp.Edge)(s:List Int):Nat->Nat
  |0=>1
  |k+1=>aN m xs s k*(takF (oddsM m (xs.getD k noEdge) (s.getD k 0))).n
def aD (m:MF)(xs:List Gsp.Edge)(s:List Int):Nat->Nat
  |0=>1
  |k+1=>aD m xs s k*(takF (oddsM m (xs.getD k noEdge) (s.getD k 0))).d
theorem aD_pos (m:MF)(xs:List Gsp.Edge)(s:List Int):∀k,0<aD m xs s k
  |0=>Nat.one_pos
  |k+1=>Nat.mul_pos (aD_pos m xs s k) (takF_ok _).1
theorem mul_low {a b:Nat}{o:Fr}(hb:0<b)(ho:okF o):mulF (lowF a b) o=lowF (a*o.n) (b*o.d):=by
  have c:=mul_eq (lowF a b) o
  have e:=low_eq (n:=a) (d:=b)
  have hx:=okF_low (n:=a) hb
  have hM:=okF_mul hx ho
  refine eq_of_cross hM (okF_low (Nat.mul_pos hb ho.1)) (cross_trans (n:=a*o.n) (d:=b*o.d) (Nat.mul_pos hb ho.1) ?_ low_eq)
  generalize mulF (lowF a b) o=M at*
  generalize lowF a b=x at*
  refine Nat.eq_of_mul_eq_mul_right hx.1 ?_
  calc M.n*(b*o.d)*x.d=M.n*(x.d*o.d)*b:=by simp only[Nat.mul_assoc,Nat.mul_comm,Nat.mul_left_comm]
    _=x.n*o.n*M.d*b:=by rw[c]
    _=x.n*b*(o.n*M.d):=by simp only[Nat.mul_assoc,Nat.mul_comm,Nat.mul_left_comm]
    _=a*x.d*(o.n*M.d):=by rw[e]
    _=a*o.n*M.d*x.d:=by simp only[Nat.mul_assoc,Nat.mul_comm,Nat.mul_left_comm]
theorem accO_pr (m:MF)(xs:List Gsp.Edge)(s:List Int):∀k,accO m xs s k=lowF (aN m xs s k) (aD m xs s k)
  |0=>rfl
  |k+1=>by
    show mulF (takF (accO m xs s k)) _=_
    rw[takF_id (accO_ok m xs s k),accO_pr m xs s k,mul_low (aD_pos m xs s k) (takF_ok _)]
    rfl
theorem le_low {a b c d:Nat}(hb:0<b)(hd:0<d):leF (lowF a b) (lowF c d)↔a*d<=c*b:=by
  have i:=low_eq (n:=a) (d:=b)
  have j:=low_eq (n:=c) (d:=d)
  have k:=(okF_low (n:=a) hb).1
  have l:=(okF_low (n:=c) hd).1
  unfold leF
  generalize lowF a b=x at*
  generalize lowF c d=y at*
  have e:x.n*y.d*(b*d)=a*d*(x.d*y.d):=by
    calc x.n*y.d*(b*d)=x.n*b*(d*y.d):=by simp only[Nat.mul_assoc,Nat.mul_comm,Nat.mul_left_comm]
      _=a*x.d*(d*y.d):=by rw[i]
      _=a*d*(x.d*y.d):=by simp only[Nat.mul_assoc,Nat.mul_comm,Nat.mul_left_comm]
  have f:y.n*x.d*(b*d)=c*b*(x.d*y.d):=by
    calc y.n*x.d*(b*d)=y.n*d*(b*x.d):=by simp only[Nat.mul_assoc,Nat.mul_comm,Nat.mul_left_comm]
      _=c*y.d*(b*x.d):=by rw[j]
      _=c*b*(x.d*y.d):=by simp only[Nat.mul_assoc,Nat.mul_comm,Nat.mul_left_comm]
  constructor
  · intro h
    refine Nat.le_of_mul_le_mul_right (c:=x.d*y.d) ?_ (Nat.mul_pos k l)
    rw[<-e,<-f]
    exact Nat.mul_le_mul_right _ h
  · intro h
    refine Nat.le_of_mul_le_mul_right (c:=b*d) ?_ (Nat.mul_pos hb hd)
    rw[e,f]
    exact Nat.mul_le_mul_right _ h
theorem getDI_drop (s:List Int)(k i:Nat):(s.drop k).getD i 0=s.getD (k+i) 0:=by simp[List.getD,List.getElem?_drop]
theorem aN_drop (m:MF)(xs:List Gsp.Edge)(s:List Int)(j:Nat):∀k,aN m xs s (j+k)=aN m xs s j*aN m (xs.drop j) (s.drop j) k
  |0=>by show _=_*1;rw[Nat.mul_one];rfl
  |k+1=>by
    show aN m xs s (j+k)*_=_*(aN m (xs.drop j) (s.drop j) k*_)
    rw[aN_drop m xs s j k,getD_drop',getDI_drop,Nat.mul_assoc]
    rfl
theorem aD_drop (m:MF)(xs:List Gsp.Edge)(s:List Int)(j:Nat):∀k,aD m xs s (j+k)=aD m xs s j*aD m (xs.drop j) (s.drop j) k
  |0=>by show _=_*1;rw[Nat.mul_one];rfl
  |k+1=>by
    show aD m xs s (j+k)*_=_*(aD m (xs.drop j) (s.drop j) k*_)
    rw[aD_drop m xs s j k,getD_drop',getDI_drop,Nat.mul_assoc]
    rfl
theorem lowF_unit {n d:Nat}(h:n<=d):(lowF n d).n<=(lowF n d).d:=Nat.div_le_div_right h
theorem odds_unit {m:MF}(hm:GoodM m)(e:Gsp.Edge)(a:Int):(takF (oddsM m e a)).n<=(takF (oddsM m e a)).d:=by
  unfold takF
  split
  · unfold oddsM
    split
    · rename_i h
      simp only[goesM,Bool.and_eq_true,decide_eq_true_eq]at h
      have hb:=bndM_ok hm h.1.1
      refine lowF_unit ?_
      unfold oddN oddD
      omega
    · exact Nat.le_refl _
  · exact Nat.zero_le _
theorem a_unit {m:MF}(hm:GoodM m)(xs:List Gsp.Edge)(s:List Int):∀k,aN m xs s k<=aD m xs s k
  |0=>Nat.le_refl _
  |k+1=>Nat.mul_le_mul (a_unit hm xs s k) (odds_unit hm _ _)
theorem oddsR_eq {m:MF}{xs:List Gsp.Edge}{a x:Int}(h:(oddsR m xs a x).2.2=0):(costG xs a x).2.2=0/\oddsR m xs a x=(lowF (aN m xs (costG xs a x).1 xs.length) (aD m xs (costG xs a x).1 xs.length),(costG xs a x).1.getD 0 0,0):=by
  by_cases hc:(costG xs a x).2.2=0
  · exact⟨hc,by unfold oddsR;rw[if_pos hc,accO_pr]⟩
  · unfold oddsR at h
    rw[if_neg hc]at h
    exact absurd h hc
theorem oddsR_of {m:MF}{xs:List Gsp.Edge}{a x:Int}(h:(costG xs a x).2.2=0):oddsR m xs a x=(lowF (aN m xs (costG xs a x).1 xs.length) (aD m xs (costG xs a x).1 xs.length),(costG xs a x).1.getD 0 0,0):=by
  unfold oddsR;rw[if_pos h,accO_pr]
theorem oddsR_err {m:MF}{xs:List Gsp.Edge}{a x:Int}:(oddsR m xs a x).2.2=(costG xs a x).2.2:=by
  unfold oddsR
  split
  · rename_i h;exact h.symm
  · rfl
theorem oddsR_ok {m:MF}{xs:List Gsp.Edge}{a x:Int}(h:(oddsR m xs a x).2.2=0):okF (oddsR m xs a x).1:=by
  rw[(oddsR_eq h).2];exact okF_low (aD_pos _ _ _ _)
theorem oddsR_drop {m:MF}(hm:GoodM m){xs:List Gsp.Edge}{a x:Int}(h:(oddsR m xs a x).2.2=0){j:Nat}(hj:j<xs.length):
    (oddsR m (xs.drop j) a x).2.2=0/\leF (oddsR m xs a x).1 (oddsR m (xs.drop j) a x).1:=by
  obtain⟨hc,he⟩:=oddsR_eq h
  have hd:=costG_drop hc hj
  have b:(costG (xs.drop j) a x).2.2=0:=by rw[hd]
  refine⟨by rw[oddsR_err,b],?_⟩
  rw[he,oddsR_of b,hd]
  simp only
  rw[le_low (aD_pos _ _ _ _) (aD_pos _ _ _ _),List.length_drop]
  have c:=aN_drop m xs (costG xs a x).1 j (xs.length-j)
  have d:=aD_drop m xs (costG xs a x).1 j (xs.length-j)
  rw[show j+(xs.length-j)=xs.length by omega]at c d
  rw[c,d]
  have hu:=a_unit hm xs (costG xs a x).1 j
  generalize aN m (xs.drop j) _ _=p
  generalize aD m (xs.drop j) _ _=q
  calc aN m xs (costG xs a x).1 j*p*q=aN m xs (costG xs a x).1 j*(p*q):=Nat.mul_assoc _ _ _
    _<=aD m xs (costG xs a x).1 j*(p*q):=Nat.mul_le_mul_right _ hu
    _=p*(aD m xs (costG xs a x).1 j*q):=by simp only[Nat.mul_assoc,Nat.mul_comm,Nat.mul_left_comm]
theorem leF_pos {a b:Fr}(hb:okF b)(h:leF a b)(hn:a.n≠0):b.n≠0:=by
  intro c
  unfold leF at h
  rw[c,Nat.zero_mul]at h
  rcases Nat.mul_eq_zero.1 (Nat.le_zero.1 h)with k|k
  · exact hn k
  · exact absurd k (Nat.pos_iff_ne_zero.1 hb.1)
structure Cand (g:List Gsp.Edge)(m:MF)(fr to a x:Int)(w:List Gsp.Edge):Prop where
  ne:w≠[]
  sub:∀e∈w,e∈g
  fst:(w.getD 0 noEdge).f=fr
  lst:(w.getD (w.length-1) noEdge).t=to
  ok:(oddsR m w a x).2.2=0
  pos:(oddsR m w a x).1.n≠0
def fo (m:MF)(a x:Int)(w:List Gsp.Edge):Fnd:=fndR w (oddsR m w a x)
variable {g:List Gsp.Edge}{m:MF}{fr to a x:Int}
def BG (g:List Gsp.Edge)(m:MF)(fr to a x:Int)(b:Fnd):Prop:=b.way=[]\/(Cand g m fr to a x b.way/\b=fo m a x b.way)
def Geq (b c:Fnd):Prop:=b.way≠[]/\ordB b c<=0
theorem Geq.trans {b c d:Fnd}(h:Geq b c)(k:ordB c d<=0):Geq b d:=⟨h.1,TP.ordB.trans _ _ _ h.2 k⟩
structure Spec (g:List Gsp.Edge)(m:MF)(fr to a x:Int)(W:List Gsp.Edge->Prop)(b b':Fnd):Prop where
  good:BG g m fr to a x b'
  up:b.way≠[]->Geq b' b
  all:∀w,Cand g m fr to a x w->W w->Geq b' (fo m a x w)
theorem Spec.same {W:List Gsp.Edge->Prop}{b:Fnd}(hb:BG g m fr to a x b)(h:∀w,Cand g m fr to a x w->W w->Geq b (fo m a x w)):Spec g m fr to a x W b b:=⟨hb,fun h=>⟨h,Int.le_of_eq (TP.ordB.refl b)⟩,h⟩
theorem Spec.fold {α:Type}{f:Fnd->α->Fnd}{W:α->List Gsp.Edge->Prop}:∀(l:List α),(∀e∈l,∀b,BG g m fr to a x b->Spec g m fr to a x (W e) b (f b e))->∀b,BG g m fr to a x b->Spec g m fr to a x (fun w=>∃e∈l,W e w) b (l.foldl f b)
  |[],_,b,hb=>Spec.same hb (fun w _ h=>by obtain⟨e,he,_⟩:=h;cases he)
  |e::l,h,b,hb=>by
    have h1:=h e (List.mem_cons_self ..) b hb
    have c:=Spec.fold l (fun e' he'=>h e' (List.mem_cons_of_mem _ he')) (f b e) h1.good
    refine⟨c.good,fun hn=>?_,fun w hw hW=>?_⟩
    · have k1:=h1.up hn
      exact(c.up k1.1).trans k1.2
    · obtain⟨e',he',hw'⟩:=hW
      rcases List.mem_cons.1 he' with rfl|he'
      · have k1:=h1.all w hw hw'
        exact(c.up k1.1).trans k1.2
      · exact c.all w hw ⟨e',he',hw'⟩
def At (g:List Gsp.Edge)(to:Int)(way:List Gsp.Edge)(at_:Int):Prop:=(∀e∈way,e∈g)/\(way=[]->at_=to)/\(way≠[]->(way.getD 0 noEdge).f=at_/\(way.getD (way.length-1) noEdge).t=to)
theorem getD_app (p q:List Gsp.Edge)(i:Nat):(p++q).getD (p.length+i) noEdge=q.getD i noEdge:=by
  simp[List.getD,List.getElem?_append_right]
theorem takF_oddsR {xs:List Gsp.Edge}(h:(oddsR m xs a x).2.2=0):takF (oddsR m xs a x).1=(oddsR m xs a x).1:=takF_id (oddsR_ok h)
theorem ordB_lt {u v:Fnd}(h:cmpF (takF u.odds) (takF v.odds)<0):ordB v u<0:=by
  unfold ordB orL
  rw[if_pos (by omega)]
  exact h
theorem look_spec (hm:GoodM m)(hft:fr≠to):∀(k:Nat) (way:List Gsp.Edge) (at_:Int) (b:Fnd),way.length+k=9->1<=k->At g to way at_->BG g m fr to a x b->
    Spec g m fr to a x (fun w=>∃p,w=p++way) b (lookR g m fr to a x k way at_ b)
  |0,_,_,_,_,h,_,_=>absurd h (by decide)
  |k+1,way,at_,b,hk,_,hA,hb=>by
    rw[lookR]
    have suf:∀w,Cand g m fr to a x w->(∃p,w=p++way)->way≠[]->(oddsR m way a x).2.2=0/\leF (oddsR m w a x).1 (oddsR m way a x).1/\(oddsR m way a x).1.n≠0:=by
      rintro w hw ⟨p,rfl⟩ hne
      have hl:p.length<(p++way).length:=by rw[List.length_append];have:=List.length_pos_iff.2 hne;omega
      have hd:=oddsR_drop hm hw.ok hl
      rw[List.drop_left]at hd
      exact⟨hd.1,hd.2,leF_pos (oddsR_ok hd.1) hd.2 hw.pos⟩
    split
    · rename_i hc
      refine Spec.same hb fun w hw hW=>?_
      obtain⟨s,u,v⟩:=suf w hw hW hc.1
      rcases hc.2 with h|h|h
      · exact absurd s h
      · exact absurd h v
      · refine⟨h.1,Int.le_of_lt (ordB_lt ?_)⟩
        show cmpF (takF (oddsR m w a x).1) (takF b.odds)<0
        have d:=h.2
        rw[takF_oddsR s]at d
        rw[takF_oddsR hw.ok]
        rw[cmpF_neg,ltF_not]at d ⊢
        exact fun hh=>d (leF_trans (oddsR_ok hw.ok).1 hh u)
    · rename_i hc
      split
      · rename_i hat
        have hne:way≠[]:=fun h=>hft (hat.symm.trans (hA.2.1 h))
        have hcd:Cand g m fr to a x way:=by
          refine⟨hne,hA.1,(hA.2.2 hne).1.trans hat,(hA.2.2 hne).2,?_,?_⟩
          · exact Decidable.not_not.1 fun h=>hc ⟨hne,.inl h⟩
          · exact fun h=>hc ⟨hne,.inr (.inl h)⟩
        have only:∀w,Cand g m fr to a x w->(∃p,w=p++way)->w=way:=by
          rintro w hw ⟨p,rfl⟩
          cases p with
          |nil=>rfl
          |cons e p=>
            exfalso
            have l:=(costG_inv (oddsR_err.symm.trans hw.ok)).1
            have hf:=hw.fst
            have d:((e::p++way).getD (p.length+1) noEdge).f=fr:=by
              have:=getD_app (e::p) way 0
              rw[List.length_cons,Nat.add_zero]at this
              rw[this,(hA.2.2 hne).1,hat]
            have o:=(way_once l (j:=0) (i:=p.length+1) (by omega) (by simp only[List.length_append,List.length_cons];have:=List.length_pos_iff.2 hne;omega)).1
            rw[hf,d]at o
            exact o rfl
        split
        · rename_i hbb
          refine⟨.inr ⟨hcd,rfl⟩,fun hn=>⟨hne,?_⟩,fun w hw hW=>?_⟩
          · rcases hbb with h|h
            · exact absurd h hn
            · exact Int.le_of_lt (better_iff.1 h)
          · rw[only w hw hW]
            exact⟨hne,Int.le_of_eq (TP.ordB.refl _)⟩
        · rename_i hbb
          refine Spec.same hb fun w hw hW=>?_
          rw[only w hw hW]
          refine⟨fun h=>hbb (.inl h),?_⟩
          have c:¬ordB (fo m a x way) b<0:=fun h=>hbb (.inr (better_iff.2 h))
          have d:=TP.ordB.anti (fo m a x way) b
          omega
      · rename_i hat
        have key:∀w,Cand g m fr to a x w->(∃p,w=p++way)->∃p e,w=p++e::way/\e∈inG g at_/\skipR way to e=false/\way.length<8:=by
          rintro w hw ⟨p,rfl⟩
          rcases List.eq_nil_or_concat p with rfl|⟨p,e,rfl⟩
          · exfalso
            have c:=hw.fst
            rw[List.nil_append]at c
            exact hat ((hA.2.2 hw.ne).1.symm.trans c)
          · rw[List.concat_eq_append,List.append_assoc,List.singleton_append]at hw ⊢
            have l:=(costG_inv (oddsR_err.symm.trans hw.ok)).1
            have z:=(wayG_len l).2
            simp only[List.length_append,List.length_cons]at z
            have ge:(p++e::way).getD p.length noEdge=e:=by
              have:=getD_app p (e::way) 0
              exact this
            have gn:∀i,(p++e::way).getD (p.length+1+i) noEdge=way.getD i noEdge:=by
              intro i
              have:=getD_app p (e::way) (1+i)
              rw[<-Nat.add_assoc]at this
              rw[this,Nat.add_comm 1 i]
              rfl
            have he:e.t=at_:=by
              by_cases hne:way=[]
              · subst hne
                have:=hw.lst
                rw[show(p++[e]).length-1=p.length by simp]at this
                rw[ge]at this
                rw[this,hA.2.1 rfl]
              · have:=(wayG_at l (i:=p.length+1) (by simp only[List.length_append,List.length_cons];have:=List.length_pos_iff.2 hne;omega)).2.1 (by omega)
                rw[show p.length+1-1=p.length by omega,ge,gn 0,(hA.2.2 hne).1]at this
                exact this
            refine⟨p,e,rfl,List.mem_filter.2 ⟨hw.sub e (by simp),decide_eq_true he⟩,?_,by omega⟩
            unfold skipR
            rw[Bool.or_eq_false_iff]
            constructor
            · refine decide_eq_false fun hto=>?_
              have c:=(wayG_at l (i:=(p++e::way).length-1) (by simp)).2.2 p.length (by simp)
              rw[ge,hw.lst]at c
              exact c hto
            · rw[List.any_eq_false]
              intro y hy
              obtain⟨i,hi,hyi⟩:=List.mem_iff_getElem.1 hy
              have c:=(way_once l (j:=p.length) (i:=p.length+1+i) (by omega) (by simp only[List.length_append,List.length_cons];omega)).1
              rw[ge,gn i]at c
              have d:way.getD i noEdge=y:=by simp[List.getD,hi,hyi]
              rw[d]at c
              simpa using fun h=>c h.symm
        split
        · rename_i h8
          refine Spec.same hb fun w hw hW=>?_
          obtain⟨_,_,_,_,_,hlt⟩:=key w hw hW
          omega
        · rename_i h8
          have hfold:=Spec.fold (g:=g) (m:=m) (fr:=fr) (to:=to) (a:=a) (x:=x) (f:=stepR (lookR g m fr to a x k) way to) (W:=fun e w=>skipR way to e=false/\∃p,w=p++e::way) (inG g at_) (fun e he b' hb'=>by
            unfold stepR
            split
            · rename_i hsk
              exact Spec.same hb' fun w _ hW=>by rw[hsk]at hW;exact absurd hW.1 (by decide)
            · rename_i hsk
              obtain⟨A,C⟩:=List.mem_filter.1 he
              have het:e.t=at_:=of_decide_eq_true C
              have hA':At g to (e::way) e.f:=by
                refine⟨fun y hy=>?_,fun h=>by simp at h,fun _=>⟨rfl,?_⟩⟩
                · rcases List.mem_cons.1 hy with rfl|hy
                  · exact A
                  · exact hA.1 y hy
                · by_cases hne:way=[]
                  · subst hne
                    show e.t=to
                    rw[het,hA.2.1 rfl]
                  · have hl:=List.length_pos_iff.2 hne
                    rw[List.length_cons,Nat.add_sub_cancel,show way.length=(way.length-1)+1 by omega]
                    exact(hA.2.2 hne).2
              have hr:=look_spec hm hft k (e::way) e.f b' (by rw[List.length_cons];omega) (by omega) hA' hb'
              exact⟨hr.good,hr.up,fun w hw hW=>hr.all w hw hW.2⟩) b hb
          exact⟨hfold.good,hfold.up,fun w hw hW=>by
            obtain⟨p,e,c,d,o,_⟩:=key w hw hW
            exact hfold.all w hw ⟨e,d,o,p,c⟩⟩
theorem bad_T (h:badR g fr to a x=false):rightG g=true/\(0<=fr/\fr<=11)/\(0<=to/\to<=11)/\fr≠to/\(1<=a/\a<=1125899906842624)/\1<=x/\x<=1048576:=by
  unfold badR at h
  simp only[Bool.or_eq_false_iff,Bool.not_eq_false',decide_eq_false_iff_not]at h
  obtain⟨⟨⟨⟨⟨b,c⟩,d⟩,e⟩,f⟩,i⟩:=h
  exact⟨b,inB_T c,inB_T d,e,inB_T f,inB_T i⟩
theorem best_spec (hm:GoodM m)(hft:fr≠to):Spec g m fr to a x (fun _=>True) noFnd (lookR g m fr to a x 9 [] to noFnd):=by
  have h:=look_spec (g:=g) (a:=a) (x:=x) hm hft 9 [] to noFnd rfl (by decide) ⟨fun e he=>(by cases he),fun _=>rfl,fun h=>absurd rfl h⟩ (.inl rfl)
  exact⟨h.good,h.up,fun w hw _=>h.all w hw ⟨w,(List.append_nil w).symm⟩⟩
theorem bestR_ok (hm:GoodM m)(h:(bestR g m fr to a x).2.2=0):badR g fr to a x=false/\Cand g m fr to a x (bestR g m fr to a x).1/\(bestR g m fr to a x).2.1=(oddsR m (bestR g m fr to a x).1 a x).1/\
    ∀w,Cand g m fr to a x w->ordB (fo m a x (bestR g m fr to a x).1) (fo m a x w)<=0:=by
  have hb:badR g fr to a x=false:=by
    cases hb:badR g fr to a x
    · rfl
    · unfold bestR at h;rw[if_pos hb]at h;exact absurd h (by decide)
  have hs:=best_spec (g:=g) (a:=a) (x:=x) hm (bad_T hb).2.2.2.1
  unfold bestR at h ⊢
  rw[if_neg (by rw[hb];decide)]at h ⊢
  split at h
  · exact absurd h (by decide)
  · rename_i hne
    rw[if_neg hne]
    rcases hs.good with k|⟨k1,k2⟩
    · exact absurd k hne
    · refine⟨hb,k1,?_,fun w hw=>?_⟩
      · show(lookR g m fr to a x 9 [] to noFnd).odds=_
        exact congrArg Fnd.odds k2
      · have:=(hs.all w hw trivial).2
        rw[k2]at this
        exact this
theorem bestR_no (hm:GoodM m)(hb:badR g fr to a x=false)(h:(bestR g m fr to a x).2.2≠0):bestR g m fr to a x=([],⟨0,0⟩,19)/\∀w,¬Cand g m fr to a x w:=by
  have hs:=best_spec (g:=g) (a:=a) (x:=x) hm (bad_T hb).2.2.2.1
  unfold bestR at h ⊢
  rw[if_neg (by rw[hb];decide)]at h ⊢
  split at h
  · rename_i hn
    rw[if_pos hn]
    exact⟨rfl,fun w hw=>(hs.all w hw trivial).1 hn⟩
  · exact absurd rfl h
theorem bestR_bad (hb:badR g fr to a x=true):bestR g m fr to a x=([],⟨0,0⟩,1):=by unfold bestR;rw[if_pos hb]
end Go.Rtp

namespace Go.Rtp
open Go.Gsp Go.Nsp Go.Msp Go.Proofs.YtocheaahlpiajaaGreatDoor
def lessG (g:List Gsp.Edge)(k:Nat):List Gsp.Edge:=g.take k++g.drop (k+1)
theorem lessG_sub {g:List Gsp.Edge}{k:Nat}{e:Gsp.Edge}(h:e∈lessG g k):e∈g:=by
  rcases List.mem_append.1 h with h|h
  · exact List.mem_of_mem_take h
  · exact List.mem_of_mem_drop h
theorem lessG_mem {g:List Gsp.Edge}{k:Nat}(hk:k<g.length){e:Gsp.Edge}(h:e∈g)(hn:e≠g.getD k noEdge):e∈lessG g k:=by
  obtain⟨i,hi,rfl⟩:=List.mem_iff_getElem.1 h
  rcases Nat.lt_trichotomy i k with b|b|b
  · exact List.mem_append_left _ (List.mem_take_iff_getElem.2 ⟨i,by omega,rfl⟩)
  · subst b;exact absurd (by simp[List.getD,hi]) hn
  · refine List.mem_append_right _ (List.mem_drop_iff_getElem.2 ⟨i-(k+1),by omega,?_⟩)
    congr 1;omega
variable {g:List Gsp.Edge}{m:MF}{fr to a x:Int}
theorem Cand.way {w:List Gsp.Edge}(h:Cand g m fr to a x w):wayG w=true:=(costG_inv (oddsR_err.symm.trans h.ok)).1
theorem Cand.less {k:Nat}(hk:k<g.length){w:List Gsp.Edge}(h:Cand (lessG g k) m fr to a x w):Cand g m fr to a x w:=⟨h.ne,fun e he=>lessG_sub (h.sub e he),h.fst,h.lst,h.ok,h.pos⟩
theorem Cand.more {k:Nat}(hk:k<g.length){w:List Gsp.Edge}(h:Cand g m fr to a x w)(hn:∀e∈w,e≠g.getD k noEdge):Cand (lessG g k) m fr to a x w:=⟨h.ne,fun e he=>lessG_mem hk (h.sub e he) (hn e he),h.fst,h.lst,h.ok,h.pos⟩
theorem bestR_errs (hm:GoodM m):(bestR g m fr to a x).2.2=0\/bestR g m fr to a x=([],⟨0,0⟩,1)\/bestR g m fr to a x=([],⟨0,0⟩,19):=by
  by_cases h:(bestR g m fr to a x).2.2=0
  · exact .inl h
  · cases hb:badR g fr to a x
    · exact .inr (.inr (bestR_no hm hb h).1)
    · exact .inr (.inl (bestR_bad hb))
theorem Cand.some {w:List Gsp.Edge}(hc:(costG w a x).2.2=0){i:Nat}(hi:i<w.length):someM (w.getD i noEdge) ((costG w a x).1.getD i 0)=true:=by
  have h:=costs_of hc
  have b:=h.ge (w.length-1-i) i (by omega)
  have c:=h.room i hi
  have hok:=edgeOk_T (wayG_at h.way hi).1
  have:=h.amt
  simp only[someM,mayM,ptyB,Bool.and_eq_true,decide_eq_true_eq]
  omega
structure Kn where
  p:Int
  d:Int
  a:Int
def noKn:Kn:=⟨0,0,0⟩
theorem none_good:GoodM (fun _=>none):=fun _ _ h=>by cases h
end Go.Rtp

