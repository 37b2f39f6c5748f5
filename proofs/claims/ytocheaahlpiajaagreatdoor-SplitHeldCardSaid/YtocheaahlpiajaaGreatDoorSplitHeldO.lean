/- SplitHeld: for every input the law answers true and leaves its arguments as they were. -/
import Derived.Test.YtocheaahlpiajaaGreatDoorSplitHeldN
set_option linter.unusedVariables false
set_option linter.unusedSimpArgs false
namespace Go.Rtp
open Go.Gsp Go.Nsp Go.Msp Go.Proofs.YtocheaahlpiajaaGreatDoor
structure TP {α:Type}(c:α->α->Int):Prop where
  anti:∀x y,c y x= -(c x y)
  trans:∀x y z,c x y<=0->c y z<=0->c x z<=0
theorem TP.refl {α:Type}{c:α->α->Int}(h:TP c)(x:α):c x x=0:=by have:=h.anti x x;omega
theorem TP.lex {α:Type}{c d:α->α->Int}(h:TP c)(k:TP d):TP (fun x y=>if c x y≠0 then c x y else d x y):=by
  refine⟨fun x y=>?_,fun x y z b e=>?_⟩
  · have:=h.anti x y
    have:=k.anti x y
    split<;>split<;>omega
  · have f:=h.trans x y z
    have i:=h.trans y z x
    have j:=h.trans z x y
    have l:=h.anti x y
    have m:=h.anti y z
    have n:=h.anti x z
    have:=k.trans x y z
    split at b<;>split at e<;>split<;>omega
theorem TP.comap {α β:Type}{c:β->β->Int}(h:TP c)(f:α->β):TP (fun x y=>c (f x) (f y)):=⟨fun _ _=>h.anti _ _,fun _ _ _=>h.trans _ _ _⟩
theorem TP.flip {α:Type}{c:α->α->Int}(h:TP c):TP (fun x y=>c y x):=⟨fun _ _=>h.anti _ _,fun x y z b d=>h.trans z y x d b⟩
theorem TP.cmpI:TP cmpI:=⟨fun x y=>by unfold Gsp.cmpI;(repeat' split);all_goals omega,fun x y z=>by unfold Gsp.cmpI;(repeat' split);all_goals omega⟩
theorem cmpF_anti (a b:Fr):cmpF b a= -(cmpF a b):=by
  unfold cmpF cmpN
  (repeat' split);all_goals omega
theorem cmpF_le {a b:Fr}:cmpF a b<=0↔leF a b:=by
  have c:=cmpF_pos (a:=a) (b:=b)
  have d:=ltF_not (a:=b) (b:=a)
  constructor
  · intro h;exact Decidable.not_not.1 (fun hh=>by have:=c.2 (d.2 hh);omega)
  · intro h;exact Int.not_lt.1 (fun hh=>d.1 (c.1 hh) h)
theorem TP.cmpF:TP (fun x y:Fr=>cmpF (takF x) (takF y)):=
  ⟨fun x y=>cmpF_anti _ _,fun x y z b c=>cmpF_le.2 (leF_trans (takF_ok y).1 (cmpF_le.1 b) (cmpF_le.1 c))⟩
theorem rowsC_anti:∀xs ys:List Gsp.Edge,rowsC ys xs= -(rowsC xs ys)
  |[],[]=>rfl
  |[],_::_=>rfl
  |_::_,[]=>rfl
  |x::xs,y::ys=>by
    have h1:=TP.cmpI.anti x.c y.c
    have b:=rowsC_anti xs ys
    unfold rowsC
    split<;>split<;>omega
theorem rowsC_trans:∀xs ys zs:List Gsp.Edge,rowsC xs ys<=0->rowsC ys zs<=0->rowsC xs zs<=0
  |[],_,[],_,_=>Int.le_refl _
  |[],_,_::_,_,_=>(by decide:(-1:Int)<=0)
  |x::xs,[],_,h,_=>absurd h (by show¬(1:Int)<=0;decide)
  |x::xs,y::ys,[],_,h=>absurd h (by show¬(1:Int)<=0;decide)
  |x::xs,y::ys,z::zs,h,k=>by
    unfold rowsC at h k ⊢
    have a1:=TP.cmpI.trans x.c y.c z.c
    have b:=TP.cmpI.trans y.c z.c x.c
    have d:=TP.cmpI.trans z.c x.c y.c
    have e:=TP.cmpI.anti x.c y.c
    have f:=TP.cmpI.anti y.c z.c
    have i:=TP.cmpI.anti x.c z.c
    have:=rowsC_trans xs ys zs
    split at h<;>split at k<;>split<;>omega
theorem TP.rowsC:TP rowsC:=⟨rowsC_anti,rowsC_trans⟩
def ordB (u v:Fnd):Int:=orL [cmpF (takF v.odds) (takF u.odds),cmpI u.sent v.sent,rowsC u.way v.way]
theorem TP.ordB:TP ordB:=by
  have h:=(TP.cmpF.flip.comap Fnd.odds).lex ((TP.cmpI.comap Fnd.sent).lex (TP.rowsC.comap Fnd.way))
  refine⟨fun x y=>?_,fun x y z d f=>?_⟩
  · have:=h.anti x y
    unfold Rtp.ordB
    simp only[orL]
    repeat' split
    all_goals (repeat' split at this)
    all_goals omega
  · have:=h.trans x y z
    unfold Rtp.ordB at*
    simp only[orL]at*
    have e:∀a b c:Int,(if a≠0 then a else if b≠0 then b else if c≠0 then c else 0)=(if a≠0 then a else if b≠0 then b else c):=by
      intro a b c;(repeat' split);all_goals omega
    rw[e]at*
    exact this d f
theorem better_iff {u v:Fnd}:betterR u v=true↔ordB u v<0:=decide_eq_true_iff
def aN (m:MF)(xs:List Gsp.Edge)(s:List Int):Nat->Nat
  |0=>1
  |k+1=>aN m xs s k*(takF (oddsM m (xs.getD k noEdge) (s.getD k 0))).n
def aD (m:MF)(xs:List Gsp.Edge)(s:List Int):Nat->Nat
  |0=>1
  |k+1=>aD m xs s k*(takF (oddsM m (xs.getD k noEdge) (s.getD k 0))).d
theorem aD_pos (m:MF)(xs:List Gsp.Edge)(s:List Int):∀k,0<aD m xs s k
  |0=>Nat.one_pos
  |k+1=>Nat.mul_pos (aD_pos m xs s k) (takF_ok _).1
theorem mul_low {a b:Nat}{o:Fr}(hb:0<b)(ho:okF o):mulF (lowF a b) o=lowF (a*o.n) (b*o.d):=by
  have c:=mul_eq (lowF a b) o
  have e:=low_eq (n:=a) (d:=b)
  have hx:=okF_low (n:=a) hb
  have hM:=okF_mul hx ho
  refine eq_of_cross hM (okF_low (Nat.mul_pos hb ho.1)) (cross_trans (n:=a*o.n) (d:=b*o.d) (Nat.mul_pos hb ho.1) ?_ low_eq)
  generalize mulF (lowF a b) o=M at*
  generalize lowF a b=x at*
  refine Nat.eq_of_mul_eq_mul_right hx.1 ?_
  calc M.n*(b*o.d)*x.d=M.n*(x.d*o.d)*b:=by simp only[Nat.mul_assoc,Nat.mul_comm,Nat.mul_left_comm]
    _=x.n*o.n*M.d*b:=by rw[c]
    _=x.n*b*(o.n*M.d):=by simp only[Nat.mul_assoc,Nat.mul_comm,Nat.mul_left_comm]
    _=a*x.d*(o.n*M.d):=by rw[e]
    _=a*o.n*M.d*x.d:=by simp only[Nat.mul_assoc,Nat.mul_comm,Nat.mul_left_comm]
theorem accO_pr (m:MF)(xs:List Gsp.Edge)(s:List Int):∀k,accO m xs s k=lowF (aN m xs s k) (aD m xs s k)
  |0=>rfl
  |k+1=>by
    show mulF (takF (accO m xs s k)) _=_
    rw[takF_id (accO_ok m xs s k),accO_pr m xs s k,mul_low (aD_pos m xs s k) (takF_ok _)]
    rfl
theorem le_low {a b c d:Nat}(hb:0<b)(hd:0<d):leF (lowF a b) (lowF c d)↔a*d<=c*b:=by
  have i:=low_eq (n:=a) (d:=b)
  have j:=low_eq (n:=c) (d:=d)
  have k:=(okF_low (n:=a) hb).1
  have l:=(okF_low (n:=c) hd).1
  unfold leF
  generalize lowF a b=x at*
  generalize lowF c d=y at*
  have e:x.n*y.d*(b*d)=a*d*(x.d*y.d):=by
    calc x.n*y.d*(b*d)=x.n*b*(d*y.d):=by simp only[Nat.mul_assoc,Nat.mul_comm,Nat.mul_left_comm]
      _=a*x.d*(d*y.d):=by rw[i]
      _=a*d*(x.d*y.d):=by simp only[Nat.mul_assoc,Nat.mul_comm,Nat.mul_left_comm]
  have f:y.n*x.d*(b*d)=c*b*(x.d*y.d):=by
    calc y.n*x.d*(b*d)=y.n*d*(b*x.d):=by simp only[Nat.mul_assoc,Nat.mul_comm,Nat.mul_left_comm]
      _=c*y.d*(b*x.d):=by rw[j]
      _=c*b*(x.d*y.d):=by simp only[Nat.mul_assoc,Nat.mul_comm,Nat.mul_left_comm]
  constructor
  · intro h
    refine Nat.le_of_mul_le_mul_right (c:=x.d*y.d) ?_ (Nat.mul_pos k l)
    rw[<-e,<-f]
    exact Nat.mul_le_mul_right _ h
  · intro h
    refine Nat.le_of_mul_le_mul_right (c:=b*d) ?_ (Nat.mul_pos hb hd)
    rw[e,f]
    exact Nat.mul_le_mul_right _ h
theorem getDI_drop (s:List Int)(k i:Nat):(s.drop k).getD i 0=s.getD (k+i) 0:=by simp[List.getD,List.getElem?_drop]
theorem aN_drop (m:MF)(xs:List Gsp.Edge)(s:List Int)(j:Nat):∀k,aN m xs s (j+k)=aN m xs s j*aN m (xs.drop j) (s.drop j) k
  |0=>by show _=_*1;rw[Nat.mul_one];rfl
  |k+1=>by
    show aN m xs s (j+k)*_=_*(aN m (xs.drop j) (s.drop j) k*_)
    rw[aN_drop m xs s j k,getD_drop',getDI_drop,Nat.mul_assoc]
    rfl
theorem aD_drop (m:MF)(xs:List Gsp.Edge)(s:List Int)(j:Nat):∀k,aD m xs s (j+k)=aD m xs s j*aD m (xs.drop j) (s.drop j) k
  |0=>by show _=_*1;rw[Nat.mul_one];rfl
  |k+1=>by
    show aD m xs s (j+k)*_=_*(aD m (xs.drop j) (s.drop j) k*_)
    rw[aD_drop m xs s j k,getD_drop',getDI_drop,Nat.mul_assoc]
    rfl
theorem lowF_unit {n d:Nat}(h:n<=d):(lowF n d).n<=(lowF n d).d:=Nat.div_le_div_right h
theorem odds_unit {m:MF}(hm:GoodM m)(e:Gsp.Edge)(a:Int):(takF (oddsM m e a)).n<=(takF (oddsM m e a)).d:=by
  unfold takF
  split
  · unfold oddsM
    split
    · rename_i h
      simp only[goesM,Bool.and_eq_true,decide_eq_true_eq]at h
      have hb:=bndM_ok hm h.1.1
      refine lowF_unit ?_
      unfold oddN oddD
      omega
    · exact Nat.le_refl _
  · exact Nat.zero_le _
theorem a_unit {m:MF}(hm:GoodM m)(xs:List Gsp.Edge)(s:List Int):∀k,aN m xs s k<=aD m xs s k
  |0=>Nat.le_refl _
  |k+1=>Nat.mul_le_mul (a_unit hm xs s k) (odds_unit hm _ _)
theorem oddsR_eq {m:MF}{xs:List Gsp.Edge}{a x:Int}(h:(oddsR m xs a x).2.2=0):(costG xs a x).2.2=0/\oddsR m xs a x=(lowF (aN m xs (costG xs a x).1 xs.length) (aD m xs (costG xs a x).1 xs.length),(costG xs a x).1.getD 0 0,0):=by
  by_cases hc:(costG xs a x).2.2=0
  · exact⟨hc,by unfold oddsR;rw[if_pos hc,accO_pr]⟩
  · unfold oddsR at h
    rw[if_neg hc]at h
    exact absurd h hc
theorem oddsR_of {m:MF}{xs:List Gsp.Edge}{a x:Int}(h:(costG xs a x).2.2=0):oddsR m xs a x=(lowF (aN m xs (costG xs a x).1 xs.length) (aD m xs (costG xs a x).1 xs.length),(costG xs a x).1.getD 0 0,0):=by
  unfold oddsR;rw[if_pos h,accO_pr]
theorem oddsR_err {m:MF}{xs:List Gsp.Edge}{a x:Int}:(oddsR m xs a x).2.2=(costG xs a x).2.2:=by
  unfold oddsR
  split
  · rename_i h;exact h.symm
  · rfl
theorem oddsR_ok {m:MF}{xs:List Gsp.Edge}{a x:Int}(h:(oddsR m xs a x).2.2=0):okF (oddsR m xs a x).1:=by
  rw[(oddsR_eq h).2];exact okF_low (aD_pos _ _ _ _)
theorem oddsR_drop {m:MF}(hm:GoodM m){xs:List Gsp.Edge}{a x:Int}(h:(oddsR m xs a x).2.2=0){j:Nat}(hj:j<xs.length):
    (oddsR m (xs.drop j) a x).2.2=0/\leF (oddsR m xs a x).1 (oddsR m (xs.drop j) a x).1:=by
  obtain⟨hc,he⟩:=oddsR_eq h
  have hd:=costG_drop hc hj
  have b:(costG (xs.drop j) a x).2.2=0:=by rw[hd]
  refine⟨by rw[oddsR_err,b],?_⟩
  rw[he,oddsR_of b,hd]
  simp only
  rw[le_low (aD_pos _ _ _ _) (aD_pos _ _ _ _),List.length_drop]
  have c:=aN_drop m xs (costG xs a x).1 j (xs.length-j)
  have d:=aD_drop m xs (costG xs a x).1 j (xs.length-j)
  rw[show j+(xs.length-j)=xs.length by omega]at c d
  rw[c,d]
  have hu:=a_unit hm xs (costG xs a x).1 j
  generalize aN m (xs.drop j) _ _=p
  generalize aD m (xs.drop j) _ _=q
  calc aN m xs (costG xs a x).1 j*p*q=aN m xs (costG xs a x).1 j*(p*q):=Nat.mul_assoc _ _ _
    _<=aD m xs (costG xs a x).1 j*(p*q):=Nat.mul_le_mul_right _ hu
    _=p*(aD m xs (costG xs a x).1 j*q):=by simp only[Nat.mul_assoc,Nat.mul_comm,Nat.mul_left_comm]
theorem leF_pos {a b:Fr}(hb:okF b)(h:leF a b)(hn:a.n≠0):b.n≠0:=by
  intro c
  unfold leF at h
  rw[c,Nat.zero_mul]at h
  rcases Nat.mul_eq_zero.1 (Nat.le_zero.1 h)with k|k
  · exact hn k
  · exact absurd k (Nat.pos_iff_ne_zero.1 hb.1)
structure Cand (g:List Gsp.Edge)(m:MF)(fr to a x:Int)(w:List Gsp.Edge):Prop where
  ne:w≠[]
  sub:∀e∈w,e∈g
  fst:(w.getD 0 noEdge).f=fr
  lst:(w.getD (w.length-1) noEdge).t=to
  ok:(oddsR m w a x).2.2=0
  pos:(oddsR m w a x).1.n≠0
def fo (m:MF)(a x:Int)(w:List Gsp.Edge):Fnd:=fndR w (oddsR m w a x)
variable {g:List Gsp.Edge}{m:MF}{fr to a x:Int}
def BG (g:List Gsp.Edge)(m:MF)(fr to a x:Int)(b:Fnd):Prop:=b.way=[]\/(Cand g m fr to a x b.way/\b=fo m a x b.way)
def Geq (b c:Fnd):Prop:=b.way≠[]/\ordB b c<=0
theorem Geq.trans {b c d:Fnd}(h:Geq b c)(k:ordB c d<=0):Geq b d:=⟨h.1,TP.ordB.trans _ _ _ h.2 k⟩
structure Spec (g:List Gsp.Edge)(m:MF)(fr to a x:Int)(W:List Gsp.Edge->Prop)(b b':Fnd):Prop where
  good:BG g m fr to a x b'
  up:b.way≠[]->Geq b' b
  all:∀w,Cand g m fr to a x w->W w->Geq b' (fo m a x w)
theorem Spec.same {W:List Gsp.Edge->Prop}{b:Fnd}(hb:BG g m fr to a x b)(h:∀w,Cand g m fr to a x w->W w->Geq b (fo m a x w)):Spec g m fr to a x W b b:=⟨hb,fun h=>⟨h,Int.le_of_eq (TP.ordB.refl b)⟩,h⟩
theorem Spec.fold {α:Type}{f:Fnd->α->Fnd}{W:α->List Gsp.Edge->Prop}:∀(l:List α),(∀e∈l,∀b,BG g m fr to a x b->Spec g m fr to a x (W e) b (f b e))->∀b,BG g m fr to a x b->Spec g m fr to a x (fun w=>∃e∈l,W e w) b (l.foldl f b)
  |[],_,b,hb=>Spec.same hb (fun w _ h=>by obtain⟨e,he,_⟩:=h;cases he)
  |e::l,h,b,hb=>by
    have h1:=h e (List.mem_cons_self ..) b hb
    have c:=Spec.fold l (fun e' he'=>h e' (List.mem_cons_of_mem _ he')) (f b e) h1.good
    refine⟨c.good,fun hn=>?_,fun w hw hW=>?_⟩
    · have k1:=h1.up hn
      exact(c.up k1.1).trans k1.2
    · obtain⟨e',he',hw'⟩:=hW
      rcases List.mem_cons.1 he' with rfl|he'
      · have k1:=h1.all w hw hw'
        exact(c.up k1.1).trans k1.2
      · exact c.all w hw ⟨e',he',hw'⟩
def At (g:List Gsp.Edge)(to:Int)(way:List Gsp.Edge)(at_:Int):Prop:=(∀e∈way,e∈g)/\(way=[]->at_=to)/\(way≠[]->(way.getD 0 noEdge).f=at_/\(way.getD (way.length-1) noEdge).t=to)
theorem getD_app (p q:List Gsp.Edge)(i:Nat):(p++q).getD (p.length+i) noEdge=q.getD i noEdge:=by
  simp[List.getD,List.getElem?_append_right]
theorem takF_oddsR {xs:List Gsp.Edge}(h:(oddsR m xs a x).2.2=0):takF (oddsR m xs a x).1=(oddsR m xs a x).1:=takF_id (oddsR_ok h)
theorem ordB_lt {u v:Fnd}(h:cmpF (takF u.odds) (takF v.odds)<0):ordB v u<0:=by
  unfold ordB orL
  rw[if_pos (by omega)]
  exact h
theorem look_spec (hm:GoodM m)(hft:fr≠to):∀(k:Nat) (way:List Gsp.Edge) (at_:Int) (b:Fnd),way.length+k=9->1<=k->At g to way at_->BG g m fr to a x b->
    Spec g m fr to a x (fun w=>∃p,w=p++way) b (lookR g m fr to a x k way at_ b)
  |0,_,_,_,_,h,_,_=>absurd h (by decide)
  |k+1,way,at_,b,hk,_,hA,hb=>by
    rw[lookR]
    have suf:∀w,Cand g m fr to a x w->(∃p,w=p++way)->way≠[]->(oddsR m way a x).2.2=0/\leF (oddsR m w a x).1 (oddsR m way a x).1/\(oddsR m way a x).1.n≠0:=by
      rintro w hw ⟨p,rfl⟩ hne
      have hl:p.length<(p++way).length:=by rw[List.length_append];have:=List.length_pos_iff.2 hne;omega
      have hd:=oddsR_drop hm hw.ok hl
      rw[List.drop_left]at hd
      exact⟨hd.1,hd.2,leF_pos (oddsR_ok hd.1) hd.2 hw.pos⟩
    split
    · rename_i hc
      refine Spec.same hb fun w hw hW=>?_
      obtain⟨s,u,v⟩:=suf w hw hW hc.1
      rcases hc.2 with h|h|h
      · exact absurd s h
      · exact absurd h v
      · refine⟨h.1,Int.le_of_lt (ordB_lt ?_)⟩
        show cmpF (takF (oddsR m w a x).1) (takF b.odds)<0
        have d:=h.2
        rw[takF_oddsR s]at d
        rw[takF_oddsR hw.ok]
        rw[cmpF_neg,ltF_not]at d ⊢
        exact fun hh=>d (leF_trans (oddsR_ok hw.ok).1 hh u)
    · rename_i hc
      split
      · rename_i hat
        have hne:way≠[]:=fun h=>hft (hat.symm.trans (hA.2.1 h))
        have hcd:Cand g m fr to a x way:=by
          refine⟨hne,hA.1,(hA.2.2 hne).1.trans hat,(hA.2.2 hne).2,?_,?_⟩
          · exact Decidable.not_not.1 fun h=>hc ⟨hne,.inl h⟩
          · exact fun h=>hc ⟨hne,.inr (.inl h)⟩
        have only:∀w,Cand g m fr to a x w->(∃p,w=p++way)->w=way:=by
          rintro w hw ⟨p,rfl⟩
          cases p with
          |nil=>rfl
          |cons e p=>
            exfalso
            have l:=(costG_inv (oddsR_err.symm.trans hw.ok)).1
            have hf:=hw.fst
            have d:((e::p++way).getD (p.length+1) noEdge).f=fr:=by
              have:=getD_app (e::p) way 0
              rw[List.length_cons,Nat.add_zero]at this
              rw[this,(hA.2.2 hne).1,hat]
            have o:=(way_once l (j:=0) (i:=p.length+1) (by omega) (by simp only[List.length_append,List.length_cons];have:=List.length_pos_iff.2 hne;omega)).1
            rw[hf,d]at o
            exact o rfl
        split
        · rename_i hbb
          refine⟨.inr ⟨hcd,rfl⟩,fun hn=>⟨hne,?_⟩,fun w hw hW=>?_⟩
          · rcases hbb with h|h
            · exact absurd h hn
            · exact Int.le_of_lt (better_iff.1 h)
          · rw[only w hw hW]
            exact⟨hne,Int.le_of_eq (TP.ordB.refl _)⟩
        · rename_i hbb
          refine Spec.same hb fun w hw hW=>?_
          rw[only w hw hW]
          refine⟨fun h=>hbb (.inl h),?_⟩
          have c:¬ordB (fo m a x way) b<0:=fun h=>hbb (.inr (better_iff.2 h))
          have d:=TP.ordB.anti (fo m a x way) b
          omega
      · rename_i hat
        have key:∀w,Cand g m fr to a x w->(∃p,w=p++way)->∃p e,w=p++e::way/\e∈inG g at_/\skipR way to e=false/\way.length<8:=by
          rintro w hw ⟨p,rfl⟩
          rcases List.eq_nil_or_concat p with rfl|⟨p,e,rfl⟩
          · exfalso
            have c:=hw.fst
            rw[List.nil_append]at c
            exact hat ((hA.2.2 hw.ne).1.symm.trans c)
          · rw[List.concat_eq_append,List.append_assoc,List.singleton_append]at hw ⊢
            have l:=(costG_inv (oddsR_err.symm.trans hw.ok)).1
            have z:=(wayG_len l).2
            simp only[List.length_append,List.length_cons]at z
            have ge:(p++e::way).getD p.length noEdge=e:=by
              have:=getD_app p (e::way) 0
              exact this
            have gn:∀i,(p++e::way).getD (p.length+1+i) noEdge=way.getD i noEdge:=by
              intro i
              have:=getD_app p (e::way) (1+i)
              rw[<-Nat.add_assoc]at this
              rw[this,Nat.add_comm 1 i]
              rfl
            have he:e.t=at_:=by
              by_cases hne:way=[]
              · subst hne
                have:=hw.lst
                rw[show(p++[e]).length-1=p.length by simp]at this
                rw[ge]at this
                rw[this,hA.2.1 rfl]
              · have:=(wayG_at l (i:=p.length+1) (by simp only[List.length_append,List.length_cons];have:=List.length_pos_iff.2 hne;omega)).2.1 (by omega)
                rw[show p.length+1-1=p.length by omega,ge,gn 0,(hA.2.2 hne).1]at this
                exact this
            refine⟨p,e,rfl,List.mem_filter.2 ⟨hw.sub e (by simp),decide_eq_true he⟩,?_,by omega⟩
            unfold skipR
            rw[Bool.or_eq_false_iff]
            constructor
            · refine decide_eq_false fun hto=>?_
              have c:=(wayG_at l (i:=(p++e::way).length-1) (by simp)).2.2 p.length (by simp)
              rw[ge,hw.lst]at c
              exact c hto
            · rw[List.any_eq_false]
              intro y hy
              obtain⟨i,hi,hyi⟩:=List.mem_iff_getElem.1 hy
              have c:=(way_once l (j:=p.length) (i:=p.length+1+i) (by omega) (by simp only[List.length_append,List.length_cons];omega)).1
              rw[ge,gn i]at c
              have d:way.getD i noEdge=y:=by simp[List.getD,hi,hyi]
              rw[d]at c
              simpa using fun h=>c h.symm
        split
        · rename_i h8
          refine Spec.same hb fun w hw hW=>?_
          obtain⟨_,_,_,_,_,hlt⟩:=key w hw hW
          omega
        · rename_i h8
          have hfold:=Spec.fold (g:=g) (m:=m) (fr:=fr) (to:=to) (a:=a) (x:=x) (f:=stepR (lookR g m fr to a x k) way to) (W:=fun e w=>skipR way to e=false/\∃p,w=p++e::way) (inG g at_) (fun e he b' hb'=>by
            unfold stepR
            split
            · rename_i hsk
              exact Spec.same hb' fun w _ hW=>by rw[hsk]at hW;exact absurd hW.1 (by decide)
            · rename_i hsk
              obtain⟨A,C⟩:=List.mem_filter.1 he
              have het:e.t=at_:=of_decide_eq_true C
              have hA':At g to (e::way) e.f:=by
                refine⟨fun y hy=>?_,fun h=>by simp at h,fun _=>⟨rfl,?_⟩⟩
                · rcases List.mem_cons.1 hy with rfl|hy
                  · exact A
                  · exact hA.1 y hy
                · by_cases hne:way=[]
                  · subst hne
                    show e.t=to
                    rw[het,hA.2.1 rfl]
                  · have hl:=List.length_pos_iff.2 hne
                    rw[List.length_cons,Nat.add_sub_cancel,show way.length=(way.length-1)+1 by omega]
                    exact(hA.2.2 hne).2
              have hr:=look_spec hm hft k (e::way) e.f b' (by rw[List.length_cons];omega) (by omega) hA' hb'
              exact⟨hr.good,hr.up,fun w hw hW=>hr.all w hw hW.2⟩) b hb
          exact⟨hfold.good,hfold.up,fun w hw hW=>by
            obtain⟨p,e,c,d,o,_⟩:=key w hw hW
            exact hfold.all w hw ⟨e,d,o,p,c⟩⟩
theorem bad_T (h:badR g fr to a x=false):rightG g=true/\(0<=fr/\fr<=11)/\(0<=to/\to<=11)/\fr≠to/\(1<=a/\a<=1125899906842624)/\1<=x/\x<=1048576:=by
  unfold badR at h
  simp only[Bool.or_eq_false_iff,Bool.not_eq_false',decide_eq_false_iff_not]at h
  obtain⟨⟨⟨⟨⟨b,c⟩,d⟩,e⟩,f⟩,i⟩:=h
  exact⟨b,inB_T c,inB_T d,e,inB_T f,inB_T i⟩
theorem best_spec (hm:GoodM m)(hft:fr≠to):Spec g m fr to a x (fun _=>True) noFnd (lookR g m fr to a x 9 [] to noFnd):=by
  have h:=look_spec (g:=g) (a:=a) (x:=x) hm hft 9 [] to noFnd rfl (by decide) ⟨fun e he=>(by cases he),fun _=>rfl,fun h=>absurd rfl h⟩ (.inl rfl)
  exact⟨h.good,h.up,fun w hw _=>h.all w hw ⟨w,(List.append_nil w).symm⟩⟩
theorem bestR_ok (hm:GoodM m)(h:(bestR g m fr to a x).2.2=0):badR g fr to a x=false/\Cand g m fr to a x (bestR g m fr to a x).1/\(bestR g m fr to a x).2.1=(oddsR m (bestR g m fr to a x).1 a x).1/\
    ∀w,Cand g m fr to a x w->ordB (fo m a x (bestR g m fr to a x).1) (fo m a x w)<=0:=by
  have hb:badR g fr to a x=false:=by
    cases hb:badR g fr to a x
    · rfl
    · unfold bestR at h;rw[if_pos hb]at h;exact absurd h (by decide)
  have hs:=best_spec (g:=g) (a:=a) (x:=x) hm (bad_T hb).2.2.2.1
  unfold bestR at h ⊢
  rw[if_neg (by rw[hb];decide)]at h ⊢
  split at h
  · exact absurd h (by decide)
  · rename_i hne
    rw[if_neg hne]
    rcases hs.good with k|⟨k1,k2⟩
    · exact absurd k hne
    · refine⟨hb,k1,?_,fun w hw=>?_⟩
      · show(lookR g m fr to a x 9 [] to noFnd).odds=_
        exact congrArg Fnd.odds k2
      · have:=(hs.all w hw trivial).2
        rw[k2]at this
        exact this
theorem bestR_no (hm:GoodM m)(hb:badR g fr to a x=false)(h:(bestR g m fr to a x).2.2≠0):bestR g m fr to a x=([],⟨0,0⟩,19)/\∀w,¬Cand g m fr to a x w:=by
  have hs:=best_spec (g:=g) (a:=a) (x:=x) hm (bad_T hb).2.2.2.1
  unfold bestR at h ⊢
  rw[if_neg (by rw[hb];decide)]at h ⊢
  split at h
  · rename_i hn
    rw[if_pos hn]
    exact⟨rfl,fun w hw=>(hs.all w hw trivial).1 hn⟩
  · exact absurd rfl h
theorem bestR_bad (hb:badR g fr to a x=true):bestR g m fr to a x=([],⟨0,0⟩,1):=by unfold bestR;rw[if_pos hb]
end Go.Rtp

namespace Go.Rtp
open Go.Gsp Go.Nsp Go.Msp Go.Proofs.YtocheaahlpiajaaGreatDoor
def EdP (p q:Gsp.Edge):Prop:=(p.c<q.c\/(p.c=q.c/\p.f<q.f))/\(p.c=q.c->p.f=q.t/\p.t=q.f/\p.r=q.r)
theorem ordE_lt {p q:Gsp.Edge}:ordE p q<0↔p.c<q.c\/(p.c=q.c/\p.f<q.f):=by
  unfold ordE cmpI
  repeat' split
  all_goals omega
theorem right_pw {l:List Gsp.Edge}(h:rightG l=true):(∀i,i<l.length->edgeOk (l.getD i noEdge)=true)/\∀i j,i<j->j<l.length->EdP (l.getD i noEdge) (l.getD j noEdge):=by
  have hp:RightP l:=of_decide_eq_true h
  have ho:∀d i,i+d+1<l.length->(l.getD i noEdge).c<(l.getD (i+d+1) noEdge).c\/((l.getD i noEdge).c=(l.getD (i+d+1) noEdge).c/\(l.getD i noEdge).f<(l.getD (i+d+1) noEdge).f):=by
    intro d
    induction d with
    |zero=>intro i hi;exact ordE_lt.1 ((hp (i+1) hi).2.1 (by omega))
    |succ d ih=>
      intro i hi
      have m:=ih i (by omega)
      have e:=ordE_lt.1 ((hp (i+d+1+1) hi).2.1 (by omega))
      rw[show i+d+1+1-1=i+d+1 by omega]at e
      rw[show i+(d+1)+1=i+d+1+1 by omega]
      omega
  have ho':∀i j,i<j->j<l.length->(l.getD i noEdge).c<(l.getD j noEdge).c\/((l.getD i noEdge).c=(l.getD j noEdge).c/\(l.getD i noEdge).f<(l.getD j noEdge).f):=by
    intro i j hij hj
    have:=ho (j-i-1) i (by omega)
    rwa [show i+(j-i-1)+1=j by omega]at this
  refine⟨fun i hi=>(hp i hi).1,fun i j hij hj=>⟨ho' i j hij hj,fun hc=>?_⟩⟩
  have b:=(hp j hj).2.2
  by_cases hn:j=i+1
  · subst hn
    exact⟨(b ⟨by omega,hc⟩).2.1,(b ⟨by omega,hc⟩).2.2.1,(b ⟨by omega,hc⟩).2.2.2⟩
  · exfalso
    have n:=ho' i (j-1) (by omega) (by omega)
    have o:=ho' (j-1) j (by omega) (by omega)
    have s:(l.getD i noEdge).c<=(l.getD (j-2) noEdge).c:=by
      by_cases k:i=j-2
      · rw[k];exact Int.le_refl _
      · have:=ho' i (j-2) (by omega) (by omega);omega
    have t:=ho' (j-2) (j-1) (by omega) (by omega)
    exact(b ⟨by omega,by omega⟩).1 ⟨by omega,by omega⟩
def lessG (g:List Gsp.Edge)(k:Nat):List Gsp.Edge:=g.take k++g.drop (k+1)
theorem lessG_sub {g:List Gsp.Edge}{k:Nat}{e:Gsp.Edge}(h:e∈lessG g k):e∈g:=by
  rcases List.mem_append.1 h with h|h
  · exact List.mem_of_mem_take h
  · exact List.mem_of_mem_drop h
theorem lessG_mem {g:List Gsp.Edge}{k:Nat}(hk:k<g.length){e:Gsp.Edge}(h:e∈g)(hn:e≠g.getD k noEdge):e∈lessG g k:=by
  obtain⟨i,hi,rfl⟩:=List.mem_iff_getElem.1 h
  rcases Nat.lt_trichotomy i k with b|b|b
  · exact List.mem_append_left _ (List.mem_take_iff_getElem.2 ⟨i,by omega,rfl⟩)
  · subst b;exact absurd (by simp[List.getD,hi]) hn
  · refine List.mem_append_right _ (List.mem_drop_iff_getElem.2 ⟨i-(k+1),by omega,?_⟩)
    congr 1;omega
variable {g:List Gsp.Edge}{m:MF}{fr to a x:Int}
theorem Cand.way {w:List Gsp.Edge}(h:Cand g m fr to a x w):wayG w=true:=(costG_inv (oddsR_err.symm.trans h.ok)).1
theorem Cand.cost {w:List Gsp.Edge}(h:Cand g m fr to a x w):(costG w a x).2.2=0:=oddsR_err.symm.trans h.ok
theorem Cand.less {k:Nat}(hk:k<g.length){w:List Gsp.Edge}(h:Cand (lessG g k) m fr to a x w):Cand g m fr to a x w:=⟨h.ne,fun e he=>lessG_sub (h.sub e he),h.fst,h.lst,h.ok,h.pos⟩
theorem Cand.more {k:Nat}(hk:k<g.length){w:List Gsp.Edge}(h:Cand g m fr to a x w)(hn:∀e∈w,e≠g.getD k noEdge):Cand (lessG g k) m fr to a x w:=⟨h.ne,fun e he=>lessG_mem hk (h.sub e he) (hn e he),h.fst,h.lst,h.ok,h.pos⟩
theorem bestR_errs (hm:GoodM m):(bestR g m fr to a x).2.2=0\/bestR g m fr to a x=([],⟨0,0⟩,1)\/bestR g m fr to a x=([],⟨0,0⟩,19):=by
  by_cases h:(bestR g m fr to a x).2.2=0
  · exact .inl h
  · cases hb:badR g fr to a x
    · exact .inr (.inr (bestR_no hm hb h).1)
    · exact .inr (.inl (bestR_bad hb))
theorem Cand.some {w:List Gsp.Edge}(hc:(costG w a x).2.2=0){i:Nat}(hi:i<w.length):someM (w.getD i noEdge) ((costG w a x).1.getD i 0)=true:=by
  have h:=costs_of hc
  have b:=h.ge (w.length-1-i) i (by omega)
  have c:=h.room i hi
  have hok:=edgeOk_T (wayG_at h.way hi).1
  have:=h.amt
  simp only[someM,mayM,ptyB,Bool.and_eq_true,decide_eq_true_eq]
  omega
theorem setM_self (m:MF)(k:Wy)(n:Nt):setM m k n k=some n:=if_pos rfl
theorem setM_other (m:MF){k k':Wy}(n:Nt)(h:k'≠k):setM m k n k'=m k':=if_neg h
theorem lowF_zero {d:Nat}(h:0<d):lowF 0 d=⟨0,1⟩:=by
  unfold lowF
  rw[Nat.gcd_zero_left,Nat.zero_div,Nat.div_self h]
theorem aN_zero {m:MF}{w:List Gsp.Edge}{s:List Int}{i:Nat}(h:(takF (oddsM m (w.getD i noEdge) (s.getD i 0))).n=0):∀k,i<k->aN m w s k=0
  |0,hk=>absurd hk (Nat.not_lt_zero _)
  |k+1,hk=>by
    unfold aN
    by_cases e:i=k
    · subst e;rw[h,Nat.mul_zero]
    · rw[aN_zero h k (by omega),Nat.zero_mul]
structure Kn where
  p:Int
  d:Int
  a:Int
def noKn:Kn:=⟨0,0,0⟩
def mindS (g:List Gsp.Edge)(m:MF)(q:Kn):MF:=
  if q.p<0\/(g.length:Int)<=q.p then m else if q.d%2=0 then failM m (g.getD q.p.toNat noEdge) q.a else passM m (g.getD q.p.toNat noEdge) q.a
def mindG (g:List Gsp.Edge)(l:List Kn):MF:=l.foldl (mindS g) (fun _=>none)
theorem mindS_good (hm:GoodM m)(q:Kn):GoodM (mindS g m q):=by
  unfold mindS
  split
  · exact hm
  · split
    · exact failM_good hm _ _
    · exact passM_good hm _ _
theorem none_good:GoodM (fun _=>none):=fun _ _ h=>by cases h
theorem mindG_good (g:List Gsp.Edge):∀(l:List Kn) (m:MF),GoodM m->GoodM (l.foldl (mindS g) m)
  |[],_,h=>h
  |q::l,m,h=>mindG_good g l _ (mindS_good h q)
end Go.Rtp

namespace Go.Msp
open Go.Gsp Go.Nsp
def bkE (e:Gsp.Edge):Wy:=⟨e.t,e.c⟩
def movN (e:Gsp.Edge)(a:Int)(n:Nt):Nt:=⟨max (n.lo-a) 0,max (n.hi-a) (max (n.lo-a) 0+1),e.r⟩
def movB (e:Gsp.Edge)(a:Int)(b:Nt):Nt:=⟨min (b.lo+a) e.r,min (b.hi+a) (e.r+1),e.r⟩
def movM (m:MF)(e:Gsp.Edge)(a:Int):MF:=if someM e a=true then setM (setM m (wyE e) (movN e a (ofM m (wyE e) e.r))) (bkE e) (movB e a (ofM m (bkE e) e.r))else m
theorem movN_ok {m:MF}(hm:GoodM m){e:Gsp.Edge}{a:Int}(h:someM e a=true):okNt (movN e a (ofM m (wyE e) e.r)):=by
  obtain⟨b,f,i⟩:=someM_T h
  obtain⟨_,_,_,_,c,d⟩:=mayM_T b
  have:=ofM_ok hm (wyE e) c d
  unfold okNt at*
  unfold movN
  simp only
  omega
theorem movB_ok {m:MF}(hm:GoodM m){e:Gsp.Edge}{a:Int}(h:someM e a=true):okNt (movB e a (ofM m (bkE e) e.r)):=by
  obtain⟨b,f,i⟩:=someM_T h
  obtain⟨_,_,_,_,c,d⟩:=mayM_T b
  have:=ofM_ok hm (bkE e) c d
  unfold okNt at*
  unfold movB
  simp only
  omega
theorem movM_good {m:MF}(hm:GoodM m)(e:Gsp.Edge)(a:Int):GoodM (movM m e a):=by
  unfold movM
  split
  · exact setM_good (setM_good hm (movN_ok hm (by assumption))) (movB_ok hm (by assumption))
  · exact hm
end Go.Msp
namespace Go.Rtp
open Go.Gsp Go.Nsp Go.Msp Go.Proofs.YtocheaahlpiajaaGreatDoor
def sentK (m:MF)(xs:List Gsp.Edge)(s:List Int):Nat->MF
  |0=>m
  |k+1=>movM (passM (sentK m xs s k) (xs.getD k noEdge) (s.getD k 0)) (xs.getD k noEdge) (s.getD k 0)
theorem sentK_good {m:MF}(hm:GoodM m)(w:List Gsp.Edge)(s:List Int):∀k,GoodM (sentK m w s k)
  |0=>hm
  |k+1=>movM_good (passM_good (sentK_good hm w s k) _ _) _ _
structure Prt where
  amt:Int
  way:List Gsp.Edge
  sent:List Int
  till:List Int
def noPrt:Prt:=⟨0,[],[],[]⟩
def shareI (amount n:Int)(i:Nat):Int:=amount/n+(if(i:Int)<amount%n then 1 else 0)
def sharesL (amount n:Int):List Int:=if n<1\/8<n\/amount<n then[]else(List.range n.toNat).map (shareI amount n)
structure TrS where
  out:List Prt
  odds:Fr
  m:MF
def tryS (g:List Gsp.Edge)(fr to x:Int)(o:Option TrS)(share:Int):Option TrS:=
  match o with
  |none=>none
  |some s=>if(bestR g s.m fr to share x).2.2=0 then some ⟨s.out++[⟨share,(bestR g s.m fr to share x).1,(costG (bestR g s.m fr to share x).1 share x).1,(costG (bestR g s.m fr to share x).1 share x).2.1⟩],
      mulF s.odds (bestR g s.m fr to share x).2.1,sentK s.m (bestR g s.m fr to share x).1 (costG (bestR g s.m fr to share x).1 share x).1 (bestR g s.m fr to share x).1.length⟩else none
def tryG (g:List Gsp.Edge)(m:MF)(fr to a x n:Int):List Prt×Fr×Int:=
  if n<1\/8<n\/(bestR g m fr to a x).2.2=1 then([],⟨0,0⟩,1)
  else match(sharesL a n).foldl (tryS g fr to x) (if sharesL a n=[]then none else some ⟨[],⟨1,1⟩,m⟩)with
    |none=>([],⟨0,0⟩,19)
    |some s=>(s.out,s.odds,0)
def splS (g:List Gsp.Edge)(m:MF)(fr to a x:Int)(b:List Prt×Fr×Int)(k:Nat):List Prt×Fr×Int:=
  if(tryG g m fr to a x (k+1)).2.2=0/\(b.1=[]\/0<cmpF (takF (tryG g m fr to a x (k+1)).2.1) (takF b.2.1))then tryG g m fr to a x (k+1)else b
def splitG (g:List Gsp.Edge)(m:MF)(fr to a x most:Int):List Prt×Fr×Int:=
  if most<1\/8<most\/(bestR g m fr to a x).2.2=1 then([],⟨0,0⟩,1)
  else(List.range most.toNat).foldl (splS g m fr to a x) ([],⟨0,0⟩,19)
end Go.Rtp

namespace Go.Proofs.YtocheaahlpiajaaGreatDoor
open Tryz
open Go Go.Sx Go.Num Go.Gsp Go.Nsp Go.Msp
set_option maxRecDepth 20000
theorem lback_ok (e:Gsp.Edge)(w:World):Calls prog 181 #[.agg (edgeV e).toArray] w fun r w'=>r= .returned (.agg (wyV (bkE e)).toArray)/\Le w w':=by
 refine enter func181 rfl rfl (Sr (W.ef rfl rfl rfl (Ef.boxA rfl fun j k y (l:Blk k j 81 (edgeV e).toArray) m=>?_)))
 have d:=(Le.refl w).trans m
 refine W.ef rfl rfl rfl (Ef.allocA z266 fun f n o (s:Blk n f 266 (wyV noWy).toArray) h=>(Nx (Sr (Wa (.field0 fa81_1 rfl) rfl ?_))))
 have i:=(l.le h)
 refine Wr (.loadB (v:= .int .i64 (e.t)) na3 rfl i rfl) rfl (Wa (.field0 fa81_2 rfl) rfl (Wr (.loadB (v:= .int .i64 (e.c)) na3 rfl i rfl) rfl (Wa (.buildP (wyV (⟨e.t,e.c⟩:Wy)) pl266 z266 rfl rfl) rfl (W.ef0 rfl rfl (Ef.storeAll sz266 (by rfl) rfl rfl s (by simp only[List.size_toArray,wyV_row.len]) (wyV_row.one (⟨e.t,e.c⟩:Wy)) ?_)))))
 intro u b x
 have b:Blk u f 266 (wyV (⟨e.t,e.c⟩:Wy)).toArray:=b
 refine Nx (Rt (E.retG1 rfl (resA rfl b ag266 (by rfl)) ?_))
 exact⟨rfl,((d.trans h).tb x d o)⟩

theorem lmov_ok {gp gm ca:Nat}{la:MMl}(e:Gsp.Edge)(a:Int)(w:World)(hp0:Blk w gp 188 #[.map (some gm)])(hM0:MapG w wyf ntf gm la ca)(hg:∀k v,getG k la=some v->okNt v)(n1:gp≠gm):Calls prog 87 #[.pointer (some ⟨gp,0,none⟩),.agg (edgeV e).toArray,.int .i64 (a)] w fun r w'=>r= .returned (.tuple #[])/\∃la' ca',MapG w' wyf ntf gm la' ca'/\(∀k,getG k la'=movM (fun k=>getG k la) e a k)/\ChP w w' (fun k=>k=gm):=by
 refine enter func87 rfl rfl (Sr (W.ef rfl rfl rfl (Ef.boxA rfl fun ap ab a4 (ac:Blk ab ap 81 (edgeV e).toArray) d=>(Nx (Sq (Sr (Wr (.loadAll ag81 (by rfl) rfl ac) rfl ?_)))))))
 refine Wn 1 rfl (W.cl go176 rfl rfl (lsome_ok e a ab) ?_)
 rintro _ a5 ⟨rfl,c⟩
 have L2:=((ChP.refl w (fun k=>k=gm)).le d).le c
 refine Wn 1 rfl (Nx ?_)
 by_cases T:(someM e a)=true
 ·refine Cn rfl (congrArg not (T)) ?_
  have hsm:=someM_T (by assumption:someM e a=true)
  have hmz:=mayM_T hsm.1
  refine Sn (Sq (WC.drawN [0,1,3,4,6,7,9,10] [2,5,8,11,12,13] [14,15] (fun i=>bif Nat.beq i 5 then[2]else bif Nat.beq i 11 then[8]else[]) mixed (by kernel_rfl) fun t f=>?_))
  have U:=L2.le f
  refine Gn 1 rfl ?_
  have z:=(ac.le (c.trans f))
  refine Gd rfl (.loadAll ag81 (by rfl) rfl z) ?_
  refine Ga rfl (.field0 fa81_3 rfl) (Gd rfl (.loadB (v:= .int .i64 (e.r)) na3 rfl z rfl) (Gn 1 rfl (Gd rfl (.loadAll ag81 (by rfl) rfl z) ?_)))
  refine Ga rfl (.field0 fa81_3 rfl) (Gd rfl (.loadB (v:= .int .i64 (e.r)) na3 rfl z rfl) (G.nil ?_))
  refine E.free ⟨by rfl,fun i=>(bif Nat.beq i 2 then(fun v _=>v= .agg (wyV (wyE e)).toArray)else(bif Nat.beq i 5 then(fun v _=>v= .agg (ntV (cnt (getG (wyE e) la) e.r)).toArray)else(bif Nat.beq i 8 then(fun v _=>v= .agg (wyV (bkE e)).toArray)else(bif Nat.beq i 11 then(fun v _=>v= .agg (ntV (cnt (getG (bkE e) la) e.r)).toArray)else(bif Nat.beq i 12 then(fun v w'=>∃g,v= .pointer (some ⟨g,0,none⟩)/\Blk w' g 263 (ntV noNt).toArray)else(bif Nat.beq i 13 then(fun v w'=>∃g,v= .pointer (some ⟨g,0,none⟩)/\Blk w' g 263 (ntV noNt).toArray)else(fun _ _=>True))))))),?_,?_,?_⟩
  ·intro i hi v o t hv hle
   simp only[List.mem_cons,List.not_mem_nil,or_false]at hi
   rcases hi with rfl|rfl|rfl|rfl|rfl|rfl
   ·exact hv
   ·exact hv
   ·exact hv
   ·exact hv
   ·obtain⟨g,V,l⟩:=hv;exact⟨g,V,l.le hle⟩
   obtain⟨g,V,l⟩:=hv;exact⟨g,V,l.le hle⟩
  ·intro i hi
   simp only[List.mem_cons,List.not_mem_nil,or_false]at hi
   rcases hi with rfl|rfl|rfl|rfl|rfl|rfl
   ·refine Step.of0 rfl rfl fun o hle=>(Ef.call go168 rfl rfl (lthere_ok e o) ?_)
    rintro _ t ⟨rfl,l⟩
    exact⟨_,rfl,l,rfl,fun k hk=>hk.elim⟩
   ·refine Step.of1 (j:=2) rfl rfl rfl fun v o hle (hv:v= .agg (wyV (wyE e)).toArray)=>?_
    subst hv
    refine Ef.call go167 rfl rfl (lof_ok (wyE e) e.r o (hp0.le (d.trans (c.trans (f.trans hle)))) (hM0.le (d.trans (c.trans (f.trans hle)))) hg (by omega) (by omega)) ?_
    rintro _ t ⟨rfl,l⟩
    exact⟨_,rfl,l,rfl,fun k hk=>hk.elim⟩
   ·refine Step.of0 rfl rfl fun o hle=>(Ef.call go181 rfl rfl (lback_ok e o) ?_)
    rintro _ t ⟨rfl,l⟩
    exact⟨_,rfl,l,rfl,fun k hk=>hk.elim⟩
   ·refine Step.of1 (j:=8) rfl rfl rfl fun v o hle (hv:v= .agg (wyV (bkE e)).toArray)=>?_
    subst hv
    refine Ef.call go167 rfl rfl (lof_ok (bkE e) e.r o (hp0.le (d.trans (c.trans (f.trans hle)))) (hM0.le (d.trans (c.trans (f.trans hle)))) hg (by omega) (by omega)) ?_
    rintro _ t ⟨rfl,l⟩
    exact⟨_,rfl,l,rfl,fun k hk=>hk.elim⟩
   ·refine Step.of0 rfl rfl ?_;intro o hle;refine Ef.allocA z263 ?_;intro g t hg b l;exact⟨l,⟨g,rfl,b⟩,fun k hk=>(show g=k from hk)▸⟨hg,b.lt⟩⟩
   refine Step.of0 rfl rfl ?_;intro o hle;refine Ef.allocA z263 ?_;intro g t hg b l;exact⟨l,⟨g,rfl,b⟩,fun k hk=>(show g=k from hk)▸⟨hg,b.lt⟩⟩
  intro f_2 W_2 h_2 hphi_2 hfeet_2 hap_2
  have aq:f_2 2= .agg (wyV (wyE e)).toArray:=hphi_2 2 (by decide)
  have ar:f_2 5= .agg (ntV (cnt (getG (wyE e) la) e.r)).toArray:=hphi_2 5 (by decide)
  have au:f_2 8= .agg (wyV (bkE e)).toArray:=hphi_2 8 (by decide)
  have av:f_2 11= .agg (ntV (cnt (getG (bkE e) la) e.r)).toArray:=hphi_2 11 (by decide)
  obtain⟨F,X,aw⟩:=hphi_2 12 (by decide)
  have ax:t.heap.size<=F:=(hfeet_2 12 (by decide) F (by rw[X];rfl)).1
  obtain⟨J,Y,ay⟩:=hphi_2 13 (by decide)
  have az:t.heap.size<=J:=(hfeet_2 13 (by decide) J (by rw[Y];rfl)).1
  have ad:F≠J:=fun h=>hap_2 12 (by decide) 13 (by decide) (by decide) F (by rw[X];rfl) (by rw[Y,h];rfl)
  show G _ _ _ _ _ ((15,f_2 2)::(18,f_2 5)::(21,f_2 8)::(24,f_2 11)::(6,f_2 12)::(7,f_2 13)::_) _
  rw[aq,ar,au,av,X,Y]
  have aA:=U.le h_2
  have aB:=cnt_ok (fun n hn=>hg (wyE e) n hn) (show 0<e.r by omega) (show e.r<=1125899906842624 by omega)
  unfold okNt at aB
  have aC:=cnt_ok (fun n hn=>hg (bkE e) n hn) (show 0<e.r by omega) (show e.r<=1125899906842624 by omega)
  unfold okNt at aC
  refine G.ef0 rfl rfl rfl rfl (Ef.storeAll sz263 (by rfl) rfl rfl aw (by simp only[List.size_toArray,ntV_row.len]) (ntV_row.one (cnt (getG (wyE e) la) e.r)) ?_)
  intro ae Z C
  refine noT (by kernel_rfl) ?_
  have Z:Blk ae F 263 (ntV (cnt (getG (wyE e) la) e.r)).toArray:=Z
  have aE:ChP w ae (fun k=>k=gm):=aA.ch C (fun i hi hlt=>by cases hi;exact absurd hlt (by have:=U.size;have:=ax;omega))
  refine G.ef0 rfl rfl rfl rfl (Ef.storeAll sz263 (by rfl) rfl rfl (ay.ch C (fun h=>ad (oI h))) (by simp only[List.size_toArray,ntV_row.len]) (ntV_row.one (cnt (getG (bkE e) la) e.r)) ?_)
  intro af K D
  refine noT (by kernel_rfl) ?_
  have K:Blk af J 263 (ntV (cnt (getG (bkE e) la) e.r)).toArray:=K
  have aF:ChP w af (fun k=>k=gm):=aE.ch D (fun i hi hlt=>by cases hi;exact absurd hlt (by have:=U.size;have:=az;omega))
  refine G.nil (E.thenN (Sr (Wa (.field0 fa263_0 rfl) rfl ?_)))
  have ah:=(Z.ch D (fun h=>(Ne.symm ad) (oI h)))
  refine Wr (.loadB (v:= .int .i64 ((cnt (getG (wyE e) la) e.r).lo)) na3 rfl ah rfl) rfl (Wn 1 rfl (Wa (.sub rfl rfl (by omega)) rfl (Wr (.max2 rfl rfl) rfl (Wn 1 rfl (Nx (Sq (WC.draw [0,1,2,3,4,6,7,8,9,10,11,12,13,14,15,16,5,17] mixed (by kernel_rfl) ?_)))))))
  intro w4 x
  refine Gn 1 rfl (Ga rfl (.nilCheck rfl) (Ga rfl (.field0 fa188_0 rfl) ?_))
  have aa:=((((hp0.le (d.trans (c.trans (f.trans h_2)))).cn C (by have:=hp0.lt;have:=d.size;have:=c.size;have:=f.size;omega)).cn D (by have:=hp0.lt;have:=d.size;have:=c.size;have:=f.size;omega)).le x)
  refine Gd rfl (.loadB (v:= .map (some gm)) na186 rfl aa rfl) ?_
  have L:=((((z.le h_2).cn C (by have:=z.lt;omega)).cn D (by have:=z.lt;omega)).le x)
  refine Gd rfl (.loadAll ag81 (by rfl) rfl L) ?_
  refine Gn 1 rfl (Ga rfl (.field0 fa263_1 rfl) (Gd rfl (.loadB (v:= .int .i64 ((cnt (getG (wyE e) la) e.r).hi)) na3 rfl (ah.le x) rfl) (Gn 1 rfl (Ga rfl (.sub rfl rfl (by omega)) (Gn 1 rfl ?_)))))
  refine Ga rfl (.add rfl rfl (by omega)) (Gd rfl (.max2 rfl rfl) (Ga rfl (.field0 fa81_3 rfl) (Gd rfl (.loadB (v:= .int .i64 (e.r)) na3 rfl L rfl) (Ga rfl (.buildP (ntV (⟨(max (((cnt (getG (wyE e) la) e.r).lo)-a) 0),(max (((cnt (getG (wyE e) la) e.r).hi)-a) ((max (((cnt (getG (wyE e) la) e.r).lo)-a) 0)+1)),e.r⟩:Nt)) pl263 z263 rfl rfl) (G.ef rfl rfl rfl rfl rfl ?_)))))
  refine Ef.call go168 rfl rfl (lthere_ok e w4) ?_
  rintro _ a6 ⟨rfl,s⟩
  refine⟨_,rfl,?_⟩
  refine⟨fun _=>s,?_⟩
  have ai:=(aF.le x).le s
  rcases optG (getG (wyE e) la)with A|⟨a7,A⟩
  ·have aG:=((((hM0.le (d.trans (c.trans (f.trans h_2)))).cn C (by have:=hM0.lt;have:=d.size;have:=c.size;have:=f.size;omega)).cn D (by have:=hM0.lt;have:=d.size;have:=c.size;have:=f.size;omega)).le (x.trans s))
   refine G.ef0 rfl rfl rfl rfl (Ef.insertG (key:=(wyE e)) (u:=(⟨(max (((cnt (getG (wyE e) la) e.r).lo)-a) 0),(max (((cnt (getG (wyE e) la) e.r).hi)-a) ((max (((cnt (getG (wyE e) la) e.r).lo)-a) 0)+1)),e.r⟩:Nt)) underlying186 kwy rfl rfl rfl aG (A) fun aH aj N=>(noT (by kernel_rfl) ?_))
   have aI:ChP w aH (fun k=>k=gm):=ai.ch N (fun i hi _=>by cases hi;exact rfl)
   refine G.nil (E.thenN (WC.draw [0,1,2,3,4,6,7,8,9,10,11,12,13,14,15,16,17,18,19,20,21,22,23,5,24] mixed (by kernel_rfl) fun w5 m=>(Gn 1 rfl (Ga rfl (.nilCheck rfl) (Ga rfl (.field0 fa188_0 rfl) (Gd rfl (.loadB (v:= .map (some gm)) na186 rfl (((aa.le s).ch N (fun h=>(Ne.symm n1) (oI h))).le m) rfl) ?_))))))
   have O:=(((L.le s).cn N (by have:=hM0.lt;omega)).le m)
   refine Gd rfl (.loadAll ag81 (by rfl) rfl O) ?_
   refine Ga rfl (.field0 fa263_0 rfl) ?_
   have ak:=(((K.le (x.trans s)).cn N (by have:=hM0.lt;have:=d.size;have:=c.size;have:=f.size;omega)).le m)
   refine Gd rfl (.loadB (v:= .int .i64 ((cnt (getG (bkE e) la) e.r).lo)) na3 rfl ak rfl) (Gn 1 rfl (Ga rfl (.add rfl rfl (by omega)) (Ga rfl (.field0 fa81_3 rfl) (Gd rfl (.loadB (v:= .int .i64 (e.r)) na3 rfl O rfl) (Gd rfl (.min2 rfl rfl) ?_)))))
   refine Ga rfl (.field0 fa263_1 rfl) (Gd rfl (.loadB (v:= .int .i64 ((cnt (getG (bkE e) la) e.r).hi)) na3 rfl ak rfl) (Gn 1 rfl (Ga rfl (.add rfl rfl (by omega)) (Ga rfl (.field0 fa81_3 rfl) (Gd rfl (.loadB (v:= .int .i64 (e.r)) na3 rfl O rfl) ?_)))))
   refine Ga rfl (.add rfl rfl (by omega)) (Gd rfl (.min2 rfl rfl) (Ga rfl (.field0 fa81_3 rfl) (Gd rfl (.loadB (v:= .int .i64 (e.r)) na3 rfl O rfl) (Ga rfl (.buildP (ntV (⟨(min (((cnt (getG (bkE e) la) e.r).lo)+a) e.r),(min (((cnt (getG (bkE e) la) e.r).hi)+a) (e.r+1)),e.r⟩:Nt)) pl263 z263 rfl rfl) (G.ef rfl rfl rfl rfl rfl ?_)))))
   refine Ef.call go181 rfl rfl (lback_ok e w5) ?_
   rintro _ a8 ⟨rfl,P⟩
   refine⟨_,rfl,?_⟩
   refine⟨fun _=>P,?_⟩
   have al:=(aI.le m).le P
   rcases optG (getG (bkE e) (la++[(ca,(wyE e),(⟨(max (((cnt (getG (wyE e) la) e.r).lo)-a) 0),(max (((cnt (getG (wyE e) la) e.r).hi)-a) ((max (((cnt (getG (wyE e) la) e.r).lo)-a) 0)+1)),e.r⟩:Nt))]))with H|⟨a9,H⟩
   ·have aJ:=(aj.le (m.trans P))
    refine G.ef0 rfl rfl rfl rfl (Ef.insertG (key:=(bkE e)) (u:=(⟨(min (((cnt (getG (bkE e) la) e.r).lo)+a) e.r),(min (((cnt (getG (bkE e) la) e.r).hi)+a) (e.r+1)),e.r⟩:Nt)) underlying186 kwy rfl rfl rfl aJ (H) fun aK aL aM=>(noT (by kernel_rfl) ?_))
    have aO:ChP w aK (fun k=>k=gm):=al.ch aM (fun i hi _=>by cases hi;exact rfl)
    refine G.nil (E.end_ (E.ret0 rfl ?_))
    have hf:movM (fun k=>getG k la) e a=setM (setM (fun k=>getG k la) (wyE e) (movN e a (ofM (fun k=>getG k la) (wyE e) e.r))) (bkE e) (movB e a (ofM (fun k=>getG k la) (bkE e) e.r)):=if_pos (by assumption)
    rw[hf]
    exact⟨rfl,_,_,aL,fun k=>by rw[getG_push H,getG_push A];rfl,aO⟩
   refine G.ef0 rfl rfl rfl rfl (Ef.updateG (key:=(bkE e)) (u:=(⟨(min (((cnt (getG (bkE e) la) e.r).lo)+a) e.r),(min (((cnt (getG (bkE e) la) e.r).hi)+a) (e.r+1)),e.r⟩:Nt)) underlying186 kwy rfl rfl rfl (aj.le (m.trans P)) stay_wy (H) fun aP aQ aR=>(noT (by kernel_rfl) ?_))
   have aS:ChP w aP (fun k=>k=gm):=al.ch aR (fun i hi _=>by cases hi;exact rfl)
   refine G.nil (E.end_ (E.ret0 rfl ?_))
   have hf:movM (fun k=>getG k la) e a=setM (setM (fun k=>getG k la) (wyE e) (movN e a (ofM (fun k=>getG k la) (wyE e) e.r))) (bkE e) (movB e a (ofM (fun k=>getG k la) (bkE e) e.r)):=if_pos (by assumption)
   rw[hf]
   exact⟨rfl,_,_,aQ,fun k=>by rw[getG_set ⟨_,H⟩,getG_push A];rfl,aS⟩
  refine G.ef0 rfl rfl rfl rfl (Ef.updateG (key:=(wyE e)) (u:=(⟨(max (((cnt (getG (wyE e) la) e.r).lo)-a) 0),(max (((cnt (getG (wyE e) la) e.r).hi)-a) ((max (((cnt (getG (wyE e) la) e.r).lo)-a) 0)+1)),e.r⟩:Nt)) underlying186 kwy rfl rfl rfl ((((hM0.le (d.trans (c.trans (f.trans h_2)))).cn C (by have:=hM0.lt;have:=d.size;have:=c.size;have:=f.size;omega)).cn D (by have:=hM0.lt;have:=d.size;have:=c.size;have:=f.size;omega)).le (x.trans s)) stay_wy (A) ?_)
  intro aT am Q
  refine noT (by kernel_rfl) ?_
  have aU:ChP w aT (fun k=>k=gm):=ai.ch Q (fun i hi _=>by cases hi;exact rfl)
  refine G.nil (E.thenN (WC.draw [0,1,2,3,4,6,7,8,9,10,11,12,13,14,15,16,17,18,19,20,21,22,23,5,24] mixed (by kernel_rfl) fun w5 m=>(Gn 1 rfl (Ga rfl (.nilCheck rfl) (Ga rfl (.field0 fa188_0 rfl) (Gd rfl (.loadB (v:= .map (some gm)) na186 rfl (((aa.le s).ch Q (fun h=>(Ne.symm n1) (oI h))).le m) rfl) ?_))))))
  have R:=(((L.le s).cn Q (by have:=hM0.lt;omega)).le m)
  refine Gd rfl (.loadAll ag81 (by rfl) rfl R) ?_
  refine Ga rfl (.field0 fa263_0 rfl) ?_
  have an:=(((K.le (x.trans s)).cn Q (by have:=hM0.lt;have:=d.size;have:=c.size;have:=f.size;omega)).le m)
  refine Gd rfl (.loadB (v:= .int .i64 ((cnt (getG (bkE e) la) e.r).lo)) na3 rfl an rfl) (Gn 1 rfl (Ga rfl (.add rfl rfl (by omega)) (Ga rfl (.field0 fa81_3 rfl) (Gd rfl (.loadB (v:= .int .i64 (e.r)) na3 rfl R rfl) (Gd rfl (.min2 rfl rfl) ?_)))))
  refine Ga rfl (.field0 fa263_1 rfl) (Gd rfl (.loadB (v:= .int .i64 ((cnt (getG (bkE e) la) e.r).hi)) na3 rfl an rfl) (Gn 1 rfl (Ga rfl (.add rfl rfl (by omega)) (Ga rfl (.field0 fa81_3 rfl) (Gd rfl (.loadB (v:= .int .i64 (e.r)) na3 rfl R rfl) ?_)))))
  refine Ga rfl (.add rfl rfl (by omega)) (Gd rfl (.min2 rfl rfl) (Ga rfl (.field0 fa81_3 rfl) (Gd rfl (.loadB (v:= .int .i64 (e.r)) na3 rfl R rfl) (Ga rfl (.buildP (ntV (⟨(min (((cnt (getG (bkE e) la) e.r).lo)+a) e.r),(min (((cnt (getG (bkE e) la) e.r).hi)+a) (e.r+1)),e.r⟩:Nt)) pl263 z263 rfl rfl) (G.ef rfl rfl rfl rfl rfl ?_)))))
  refine Ef.call go181 rfl rfl (lback_ok e w5) ?_
  rintro _ ba ⟨rfl,S⟩
  refine⟨_,rfl,?_⟩
  refine⟨fun _=>S,?_⟩
  have ao:=(aU.le m).le S
  rcases optG (getG (bkE e) (la.map fun y=>if y.2.1=(wyE e)then(y.1,(wyE e),(⟨(max (((cnt (getG (wyE e) la) e.r).lo)-a) 0),(max (((cnt (getG (wyE e) la) e.r).hi)-a) ((max (((cnt (getG (wyE e) la) e.r).lo)-a) 0)+1)),e.r⟩:Nt))else y))with I|⟨bb,I⟩
  ·have aV:=(am.le (m.trans S))
   refine G.ef0 rfl rfl rfl rfl (Ef.insertG (key:=(bkE e)) (u:=(⟨(min (((cnt (getG (bkE e) la) e.r).lo)+a) e.r),(min (((cnt (getG (bkE e) la) e.r).hi)+a) (e.r+1)),e.r⟩:Nt)) underlying186 kwy rfl rfl rfl aV (I) fun aW aX aY=>(noT (by kernel_rfl) ?_))
   have aZ:ChP w aW (fun k=>k=gm):=ao.ch aY (fun i hi _=>by cases hi;exact rfl)
   refine G.nil (E.end_ (E.ret0 rfl ?_))
   have hf:movM (fun k=>getG k la) e a=setM (setM (fun k=>getG k la) (wyE e) (movN e a (ofM (fun k=>getG k la) (wyE e) e.r))) (bkE e) (movB e a (ofM (fun k=>getG k la) (bkE e) e.r)):=if_pos (by assumption)
   rw[hf]
   exact⟨rfl,_,_,aX,fun k=>by rw[getG_push I,getG_set ⟨_,A⟩];rfl,aZ⟩
  refine G.ef0 rfl rfl rfl rfl (Ef.updateG (key:=(bkE e)) (u:=(⟨(min (((cnt (getG (bkE e) la) e.r).lo)+a) e.r),(min (((cnt (getG (bkE e) la) e.r).hi)+a) (e.r+1)),e.r⟩:Nt)) underlying186 kwy rfl rfl rfl (am.le (m.trans S)) stay_wy (I) fun a0 a1 a2=>(noT (by kernel_rfl) ?_))
  have a3:ChP w a0 (fun k=>k=gm):=ao.ch a2 (fun i hi _=>by cases hi;exact rfl)
  refine G.nil (E.end_ (E.ret0 rfl ?_))
  have hf:movM (fun k=>getG k la) e a=setM (setM (fun k=>getG k la) (wyE e) (movN e a (ofM (fun k=>getG k la) (wyE e) e.r))) (bkE e) (movB e a (ofM (fun k=>getG k la) (bkE e) e.r)):=if_pos (by assumption)
  rw[hf]
  exact⟨rfl,_,_,a1,fun k=>by rw[getG_set ⟨_,I⟩,getG_set ⟨_,A⟩];rfl,a3⟩
 refine Cy rfl (congrArg not ((Bool.eq_false_iff.2 T))) (Rt (E.thenR (E.ret0 rfl ?_)))
 have hf:movM (fun k=>getG k la) e a=(fun k=>getG k la):=if_neg (by simp[T])
 rw[hf]
 exact⟨rfl,_,_,(hM0.le (d.trans c)),fun k=>rfl,L2⟩

theorem mov_mind {w:World}{base gp:Nat}{F:Nat->Prop}{m:MF}(e:Gsp.Edge)(a:Int)(h:MPool w base gp F m):Calls prog 87 #[.pointer (some ⟨gp,0,none⟩),.agg (edgeV e).toArray,.int .i64 a] w (ActedM w base gp F (movM m e a)):=by
  obtain⟨gm,la,ca,c,j,rfl,d,b,f,l,n⟩:=h
  refine Calls.mono (lmov_ok e a w c j (goodG d) b) ?_
  rintro r w' ⟨hr,la',ca',k1,k2,i⟩
  exact⟨hr,⟨gm,la',ca',c.chP i b,k1,funext k2,movM_good d e a,b,f,l,n⟩,fun k hk=> .inl hk,i.mono fun k hk _=>(f k).2 (.inr hk)⟩
end Go.Proofs.YtocheaahlpiajaaGreatDoor

namespace Go.Rtp
open Go.Gsp Go.Nsp Go.Msp Go.Proofs.YtocheaahlpiajaaGreatDoor
variable {g:List Gsp.Edge}{m:MF}{fr to a x:Int}
theorem getD_mem {α:Type}{l:List α}{z:α}{k:Nat}(h:k<l.length):l.getD k z∈l:=by
  have:l.getD k z=l[k]:=by simp[List.getD,h]
  rw[this];exact List.getElem_mem h
def hiM (m:MF)(e:Gsp.Edge):Int:=(ofM m (wyE e) e.r).hi
theorem right_pair (h:rightG g=true){p q:Gsp.Edge}(hp:p∈g)(hq:q∈g)(hc:p.c=q.c):p=q\/(p.f=q.t/\p.t=q.f/\p.r=q.r):=by
  obtain⟨_,b⟩:=right_pw h
  obtain⟨i,hi,rfl⟩:=List.mem_iff_getElem.1 hp
  obtain⟨j,hj,rfl⟩:=List.mem_iff_getElem.1 hq
  have ei:g.getD i noEdge=g[i]:=by simp[List.getD,hi]
  have ej:g.getD j noEdge=g[j]:=by simp[List.getD,hj]
  rcases Nat.lt_trichotomy i j with k|k|k
  · have:=(b i j k hj).2
    rw[ei,ej]at this
    exact .inr (this hc)
  · subst k;exact .inl rfl
  · have:=(b j i k hi).2
    rw[ei,ej]at this
    obtain⟨k1,k2,d⟩:=this hc.symm
    exact .inr ⟨k2.symm,k1.symm,d.symm⟩
theorem sent1_hi (hm:GoodM m){y:Gsp.Edge}{s:Int}(hs:someM y s=true)(hh:s<hiM m y):
    hiM (movM (passM m y s) y s) y=hiM m y-s/\(∀e:Gsp.Edge,e.f=y.t->e.c=y.c->e.r=y.r->hiM (movM (passM m y s) y s) e<=hiM m e+s)/\(∀e:Gsp.Edge,e.c≠y.c->hiM (movM (passM m y s) y s) e=hiM m e):=by
  obtain⟨k,o,u⟩:=someM_T hs
  obtain⟨_,_,hft,_,i,j⟩:=mayM_T k
  have ho:=ofM_ok hm (wyE y) i j
  have hb:=ofM_ok hm (bkE y) i j
  have hne:bkE y≠wyE y:=fun h=>hft (congrArg Wy.f h).symm
  have b:passM m y s=setM m (wyE y) (passN y s (ofM m (wyE y) y.r)):=if_pos hs
  have l:ofM (passM m y s) (wyE y) y.r=cnt (some (passN y s (ofM m (wyE y) y.r))) y.r:=by rw[b];unfold ofM;rw[setM_self]
  have n:ofM (passM m y s) (bkE y) y.r=ofM m (bkE y) y.r:=by rw[b];unfold ofM;rw[setM_other m _ hne]
  have d:movM (passM m y s) y s=setM (setM (passM m y s) (wyE y) (movN y s (ofM (passM m y s) (wyE y) y.r))) (bkE y) (movB y s (ofM (passM m y s) (bkE y) y.r)):=if_pos hs
  refine⟨?_,fun e hf hc hr=>?_,fun e hc=>?_⟩
  · have:ofM (movM (passM m y s) y s) (wyE y) y.r=cnt (some (movN y s (cnt (some (passN y s (ofM m (wyE y) y.r))) y.r))) y.r:=by
      rw[d,l]
      unfold ofM
      rw[setM_other _ _ (Ne.symm hne),setM_self]
    unfold hiM at*
    rw[this]
    generalize ofM m (wyE y) y.r=N at*
    unfold okNt at ho
    simp only[cnt,movN,passN]
    omega
  · have hk:wyE e=bkE y:=by unfold wyE bkE;rw[hf,hc]
    have:ofM (movM (passM m y s) y s) (wyE e) e.r=cnt (some (movB y s (ofM m (bkE y) y.r))) y.r:=by
      rw[d,n,hk,hr]
      unfold ofM
      rw[setM_self]
    unfold hiM at*
    rw[this,hk,hr]
    generalize ofM m (bkE y) y.r=N at*
    unfold okNt at hb
    simp only[cnt,movB]
    omega
  · have k1:wyE e≠wyE y:=fun h=>hc (congrArg Wy.c h)
    have k2:wyE e≠bkE y:=fun h=>hc (congrArg Wy.c h)
    unfold hiM ofM
    rw[d,setM_other _ _ k2,setM_other _ _ k1,b,setM_other _ _ k1]
def flow1 (e x:Gsp.Edge)(s:Int):Int:=if x=e then s else if x.c=e.c then-s else 0
def flowK (e:Gsp.Edge)(w:List Gsp.Edge)(s:List Int):Nat->Int
  |0=>0
  |k+1=>flowK e w s k+flow1 e (w.getD k noEdge) (s.getD k 0)
theorem way_chan (hg:rightG g=true){w:List Gsp.Edge}(hw:wayG w=true)(hsub:∀e∈w,e∈g){i j:Nat}(hji:j<i)(hi:i<w.length):(w.getD j noEdge).c≠(w.getD i noEdge).c:=by
  intro hc
  have ho:=way_once hw hji hi
  have b:w.getD j noEdge∈g:=hsub _ (getD_mem (z:=noEdge) (by omega))
  have d:w.getD i noEdge∈g:=hsub _ (getD_mem (z:=noEdge) hi)
  rcases right_pair hg b d hc with h|h
  · exact ho.1 (congrArg Gsp.Edge.f h)
  · exact ho.2.2 h.1
theorem sentK_flow (hg:rightG g=true)(hm:GoodM m){w:List Gsp.Edge}{s:List Int}(hw:wayG w=true)(hsub:∀e∈w,e∈g)(hs:∀i,i<w.length->someM (w.getD i noEdge) (s.getD i 0)=true)(hh:∀i,i<w.length->s.getD i 0<hiM m (w.getD i noEdge)):
    ∀k,k<=w.length->(∀e∈g,hiM (sentK m w s k) e<=hiM m e-flowK e w s k)/\(∀e:Gsp.Edge,(∀i,i<k->(w.getD i noEdge).c≠e.c)->hiM (sentK m w s k) e=hiM m e)
  |0,_=>⟨fun e _=>by show hiM m e<=hiM m e-0;omega,fun _ _=>rfl⟩
  |k+1,hk=>by
    obtain⟨i1,i2⟩:=sentK_flow hg hm hw hsub hs hh k (by omega)
    have hy:=i2 (w.getD k noEdge) (fun i hi=>way_chan hg hw hsub hi (by omega))
    obtain⟨d,f,b⟩:=sent1_hi (sentK_good hm w s k) (hs k (by omega)) (by rw[hy];exact hh k (by omega))
    have my:w.getD k noEdge∈g:=hsub _ (getD_mem (z:=noEdge) (by omega))
    refine⟨fun e he=>?_,fun e hc=>?_⟩
    · have ie:=i1 e he
      show hiM (movM (passM (sentK m w s k) (w.getD k noEdge) (s.getD k 0)) (w.getD k noEdge) (s.getD k 0)) e<=hiM m e-(flowK e w s k+flow1 e (w.getD k noEdge) (s.getD k 0))
      unfold flow1
      by_cases hc:(w.getD k noEdge).c=e.c
      · rcases right_pair hg he my hc.symm with h|⟨h,h',h''⟩
        · rw[if_pos h.symm,h,d]
          rw[h]at ie
          omega
        · have hn:¬w.getD k noEdge=e:=fun hq=>by
            have:=(mayM_T (someM_T (hs k (by omega))).1).2.2.1
            rw[hq]at this h
            exact this h
          have:=f e h hc.symm h''
          rw[if_neg hn,if_pos hc]
          omega
      · have hn:¬w.getD k noEdge=e:=fun hq=>hc (by rw[hq])
        rw[if_neg hn,if_neg hc,b e (fun h=>hc h.symm)]
        omega
    · show hiM (movM (passM (sentK m w s k) (w.getD k noEdge) (s.getD k 0)) (w.getD k noEdge) (s.getD k 0)) e=hiM m e
      rw[b e (fun h=>hc k (Nat.lt_succ_self k) h.symm)]
      exact i2 e (fun i hi=>hc i (by omega))
theorem odds_hi (hm:GoodM m){e:Gsp.Edge}{s:Int}(h:(takF (oddsM m e s)).n≠0):s<hiM m e:=by
  refine Decidable.byContradiction fun hn=>h ?_
  unfold oddsM
  split
  · rename_i hg
    simp only[goesM,Bool.and_eq_true,decide_eq_true_eq]at hg
    have hb:=bndM_ok hm hg.1.1
    have b:(bndM m e).2=hiM m e:=by unfold bndM;rw[if_pos hg.1.1];rfl
    have hN:oddN m e s=0:=by unfold oddN;omega
    rw[hN,show(0:Int).toNat=0 from rfl,lowF_zero (by unfold oddD;omega)]
    decide
  · decide
theorem cand_hi (hm:GoodM m){w:List Gsp.Edge}(h:Cand g m fr to a x w){i:Nat}(hi:i<w.length):(costG w a x).1.getD i 0<hiM m (w.getD i noEdge):=by
  refine odds_hi hm fun hz=>h.pos ?_
  rw[oddsR_of h.cost,aN_zero hz w.length hi]
  show 0/_=0
  exact Nat.zero_div _
def netP (e:Gsp.Edge):List Prt->Int
  |[]=>0
  |p::ps=>flowK e p.way p.sent p.way.length+netP e ps
theorem netP_app (e:Gsp.Edge):∀ps qs:List Prt,netP e (ps++qs)=netP e ps+netP e qs
  |[],qs=>by show netP e qs=0+netP e qs;omega
  |p::ps,qs=>by
    show _+netP e (ps++qs)=_+netP e ps+netP e qs
    rw[netP_app e ps qs];omega
structure PrtOk (g:List Gsp.Edge)(fr to x:Int)(p:Prt):Prop where
  cost:costG p.way p.amt x=(p.sent,p.till,0)
  ne:p.way≠[]
  sub:∀e∈p.way,e∈g
  fst:(p.way.getD 0 noEdge).f=fr
  lst:(p.way.getD (p.way.length-1) noEdge).t=to
structure TrOk (g:List Gsp.Edge)(fr to x:Int)(s:TrS):Prop where
  good:GoodM s.m
  odds:okF s.odds/\0<s.odds.n/\s.odds.n<=s.odds.d
  parts:∀p∈s.out,PrtOk g fr to x p
  net:∀e∈g,hiM s.m e<=e.r+1-netP e s.out
theorem mulF_unit {p q:Fr}(hp:okF p/\0<p.n/\p.n<=p.d)(hq:okF q/\0<q.n/\q.n<=q.d):okF (mulF p q)/\0<(mulF p q).n/\(mulF p q).n<=(mulF p q).d:=by
  refine⟨okF_mul hp.1 hq.1,?_,lowF_unit (Nat.mul_le_mul hp.2.2 hq.2.2)⟩
  have b:0<p.n*q.n:=Nat.mul_pos hp.2.1 hq.2.1
  exact Nat.div_pos (Nat.gcd_le_left _ b) (Nat.gcd_pos_of_pos_left _ b)
theorem best_unit (hm:GoodM m)(h:(bestR g m fr to a x).2.2=0):okF (bestR g m fr to a x).2.1/\0<(bestR g m fr to a x).2.1.n/\(bestR g m fr to a x).2.1.n<=(bestR g m fr to a x).2.1.d:=by
  obtain⟨_,b,c,_⟩:=bestR_ok hm h
  rw[c]
  refine⟨oddsR_ok b.ok,Nat.pos_of_ne_zero b.pos,?_⟩
  rw[oddsR_of b.cost]
  exact lowF_unit (a_unit hm _ _ _)
theorem tryS_ok {s t:TrS}(h:TrOk g fr to x s){share:Int}(hs:tryS g fr to x (some s) share=some t):TrOk g fr to x t/\∃p,t.out=s.out++[p]/\p.amt=share:=by
  unfold tryS at hs
  simp only at hs
  split at hs
  · rename_i b
    cases hs
    obtain⟨hbad,hc,_,_⟩:=bestR_ok h.good b
    have hrg:=(bad_T hbad).1
    refine⟨⟨sentK_good h.good _ _ _,mulF_unit h.odds (best_unit h.good b),fun p hp=>?_,fun e he=>?_⟩,_,rfl,rfl⟩
    · rcases List.mem_append.1 hp with hp|hp
      · exact h.parts p hp
      · rw[List.mem_singleton.1 hp]
        exact⟨Prod.ext rfl (Prod.ext rfl hc.cost),hc.ne,hc.sub,hc.fst,hc.lst⟩
    · have k:=(sentK_flow hrg h.good hc.way hc.sub (fun i hi=>Cand.some hc.cost hi) (fun i hi=>cand_hi h.good hc hi) _ (Nat.le_refl _)).1 e he
      have k2:=h.net e he
      rw[netP_app]
      show _<=e.r+1-(netP e s.out+(flowK e _ _ _+0))
      simp only
      omega
  · cases hs
theorem hiM_pos (hm:GoodM m){e:Gsp.Edge}(he:edgeOk e=true):1<=hiM m e/\hiM m e<=e.r+1:=by
  have hr:=(edgeOk_T he).2.2.2.2.1
  have:=(ofM_ok hm (wyE e) (show 0<e.r by omega) hr.2)
  unfold okNt at this
  unfold hiM
  omega
theorem try_none:∀l:List Int,l.foldl (tryS g fr to x) none=none
  |[]=>rfl
  |_::l=>try_none l
theorem try_fold:∀(l:List Int) {s t:TrS},TrOk g fr to x s->l.foldl (tryS g fr to x) (some s)=some t->TrOk g fr to x t/\t.out.map (·.amt)=s.out.map (·.amt)++l
  |[],s,t,h,ht=>by cases ht;exact⟨h,by simp⟩
  |y::l,s,t,h,ht=>by
    rw[List.foldl_cons]at ht
    cases hq:tryS g fr to x (some s) y with
    |none=>rw[hq,try_none]at ht;cases ht
    |some u=>
      rw[hq]at ht
      obtain⟨h1,p,h2,h3⟩:=tryS_ok h hq
      obtain⟨k1,k2⟩:=try_fold l h1 ht
      refine⟨k1,?_⟩
      rw[k2,h2,List.map_append,List.append_assoc]
      simp[h3]
def sumI:List Int->Int
  |[]=>0
  |y::l=>y+sumI l
theorem sumI_app:∀l k:List Int,sumI (l++k)=sumI l+sumI k
  |[],k=>by show sumI k=0+sumI k;omega
  |y::l,k=>by
    show y+sumI (l++k)=y+sumI l+sumI k
    rw[sumI_app l k];omega
theorem shares_sum (q r:Int)(hr:0<=r):∀k:Nat,sumI ((List.range k).map fun i:Nat=>q+(if(i:Int)<r then 1 else 0))=k*q+min (k:Int) r
  |0=>by show(0:Int)=((0:Nat):Int)*q+_;simp;omega
  |k+1=>by
    rw[List.range_succ,List.map_append,sumI_app,shares_sum q r hr k]
    have e:((k+1:Nat):Int)*q=k*q+q:=by rw[show((k+1:Nat):Int)=(k:Int)+1 by omega,Int.add_mul];omega
    rw[e]
    generalize (k:Int)*q=z
    show z+min (k:Int) r+((q+if(k:Int)<r then 1 else 0)+0)=_
    split<;>omega
theorem sharesL_ok {a n:Int}(h1:1<=n)(h2:n<=8)(h3:n<=a):(sharesL a n).length=n.toNat/\sumI (sharesL a n)=a/\(∀i,i<n.toNat->(sharesL a n).getD i 0=shareI a n i)/\sharesL a n≠[]:=by
  have e:sharesL a n=(List.range n.toNat).map (shareI a n):=by unfold sharesL;rw[if_neg (by omega)]
  rw[e]
  refine⟨by simp,?_,fun i hi=>by simp[List.getD,hi],fun hh=>by have:=congrArg List.length hh;simp at this;omega⟩
  have hm:=Int.emod_nonneg a (show n≠0 by omega)
  have hl:=Int.emod_lt_of_pos a (show 0<n by omega)
  have k:=shares_sum (a/n) (a%n) hm n.toNat
  have hd:=Int.mul_ediv_add_emod a n
  have hn:((n.toNat:Nat):Int)=n:=by omega
  rw[hn]at k
  show sumI ((List.range n.toNat).map fun i:Nat=>a/n+(if(i:Int)<a%n then 1 else 0))=a
  rw[k,show min n (a%n)=a%n by omega]
  exact hd
theorem one_unit:okF (⟨1,1⟩:Fr)/\0<(⟨1,1⟩:Fr).n/\(⟨1,1⟩:Fr).n<=(⟨1,1⟩:Fr).d:=by unfold okF;decide
theorem try_start (hm:GoodM m)(hg:rightG g=true):TrOk g fr to x ⟨[],⟨1,1⟩,m⟩:=⟨hm,one_unit,(fun p hp=>by cases hp),fun e he=>by
  obtain⟨i,hi,rfl⟩:=List.mem_iff_getElem.1 he
  have:=hiM_pos hm (e:=g[i]) (by have:=(right_pw hg).1 i hi;rwa [show g.getD i noEdge=g[i] by simp[List.getD,hi]]at this)
  show hiM m g[i]<=g[i].r+1-0
  omega⟩
theorem tryG_spec (hm:GoodM m){n:Int}:(tryG g m fr to a x n=([],⟨0,0⟩,1)/\(n<1\/8<n\/(bestR g m fr to a x).2.2=1))\/(tryG g m fr to a x n=([],⟨0,0⟩,19)/\1<=n/\n<=8/\(bestR g m fr to a x).2.2≠1)\/
    (∃s:TrS,tryG g m fr to a x n=(s.out,s.odds,0)/\TrOk g fr to x s/\s.out.map (·.amt)=sharesL a n/\1<=n/\n<=8/\n<=a/\(bestR g m fr to a x).2.2≠1):=by
  unfold tryG
  split
  · rename_i h;exact .inl ⟨rfl,h⟩
  · rename_i h
    have hb:badR g fr to a x=false:=by
      cases hb:badR g fr to a x
      · rfl
      · exact absurd (by rw[bestR_bad hb]) (fun hh=>h (.inr (.inr hh)))
    split
    · exact .inr (.inl ⟨rfl,by omega,by omega,fun hh=>h (.inr (.inr hh))⟩)
    · rename_i s hs
      split at hs
      · rw[try_none]at hs;cases hs
      · rename_i hne
        obtain⟨k1,k2⟩:=try_fold _ (try_start hm (bad_T hb).1) hs
        refine .inr (.inr ⟨s,rfl,k1,k2,by omega,by omega,?_,fun hh=>h (.inr (.inr hh))⟩)
        refine Decidable.byContradiction fun hna=>hne ?_
        unfold sharesL
        rw[if_pos (by omega)]
theorem splF_spec (hm:GoodM m):∀k:Nat,((List.range k).foldl (splS g m fr to a x) ([],⟨0,0⟩,19)=([],⟨0,0⟩,19)/\∀j,j<k->(tryG g m fr to a x (j+1)).2.2≠0)\/
    (∃j:Nat,j<k/\(List.range k).foldl (splS g m fr to a x) ([],⟨0,0⟩,19)=tryG g m fr to a x (j+1)/\(tryG g m fr to a x (j+1)).2.2=0)
  |0=> .inl ⟨rfl,fun j hj=>absurd hj (Nat.not_lt_zero _)⟩
  |k+1=>by
    rw[List.range_succ,List.foldl_append]
    show(splS g m fr to a x _ k=_/\_)\/∃j:Nat,j<k+1/\splS g m fr to a x _ k=_/\_
    rcases splF_spec hm k with⟨h1,h2⟩|⟨j,h1,h2,h3⟩
    · rw[h1]
      unfold splS
      by_cases h0:(tryG g m fr to a x (k+1)).2.2=0
      · rw[if_pos ⟨h0,.inl rfl⟩]
        exact .inr ⟨k,Nat.lt_succ_self k,rfl,h0⟩
      · rw[if_neg (fun hh=>h0 hh.1)]
        refine .inl ⟨rfl,fun j hj=>?_⟩
        rcases Nat.lt_or_ge j k with q|q
        · exact h2 j q
        · rw[show j=k by omega];exact h0
    · rw[h2]
      unfold splS
      split
      · rename_i hh
        exact .inr ⟨k,Nat.lt_succ_self k,rfl,hh.1⟩
      · exact .inr ⟨j,by omega,rfl,h3⟩
end Go.Rtp

namespace Go.Rtp
open Go.Gsp Go.Nsp Go.Msp Go.Proofs.YtocheaahlpiajaaGreatDoor
variable {g:List Gsp.Edge}{m:MF}{fr to a x:Int}
theorem share_le {a n:Int}(h1:1<=n)(h3:n<=a)(i:Nat):1<=shareI a n i/\shareI a n i<=(a+n-1)/n:=by
  have hm:=Int.emod_nonneg a (show n≠0 by omega)
  have hd:=Int.mul_ediv_add_emod a n
  have hq:1<=a/n:=(Int.le_ediv_iff_mul_le (by omega)).2 (by omega)
  have b:a/n<=(a+n-1)/n:=Int.ediv_le_ediv (by omega) (by omega)
  unfold shareI
  split
  · refine⟨by omega,(Int.le_ediv_iff_mul_le (by omega)).2 ?_⟩
    rw[Int.add_mul,Int.mul_comm (a/n) n]
    omega
  · omega
end Go.Rtp

namespace Go.Proofs.YtocheaahlpiajaaGreatDoor
open Go Go.Gsp Go.Nsp Go.Msp Go.Rtp
theorem bestR_len {g:List Gsp.Edge}{m:MF}{fr to a x:Int}(hm:GoodM m):(bestR g m fr to a x).1.length<=8/\(digs (bestR g m fr to a x).2.1.n).length<=100/\(digs (bestR g m fr to a x).2.1.d).length<=100:=by
  rcases bestR_errs (g:=g) (fr:=fr) (to:=to) (a:=a) (x:=x) hm with h|h|h
  · obtain⟨_,c,e,_⟩:=bestR_ok hm h
    have b:=oddsR_len hm (bestR g m fr to a x).1 a x
    rw[<-e]at b
    exact⟨(wayG_len c.way).2,b⟩
  · rw[h];simp only[digs_zero];decide
  · rw[h];simp only[digs_zero];decide
def LenF (f:Fr)(b:Nat):Prop:=(digs f.n).length<=b/\(digs f.d).length<=b
theorem LenF.up {f:Fr}{b c:Nat}(h:LenF f b)(k:b<=c):LenF f c:=⟨Nat.le_trans h.1 k,Nat.le_trans h.2 k⟩
theorem LenF.nil (b:Nat):LenF ⟨0,0⟩ b:=by unfold LenF;simp only[digs_zero];exact⟨Nat.zero_le _,Nat.zero_le _⟩
theorem LenF.mul {p q:Fr}{b c:Nat}(hp:LenF p b)(hq:LenF q c):LenF (mulF p q) (b+c):=
  ⟨Nat.le_trans (digs_len_mono (lowF_le _ _).1) (Nat.le_trans (digs_mul_len _ _) (Nat.add_le_add hp.1 hq.1)),Nat.le_trans (digs_len_mono (lowF_le _ _).2) (Nat.le_trans (digs_mul_len _ _) (Nat.add_le_add hp.2 hq.2))⟩
section
variable {g:List Gsp.Edge}{m:MF}{fr to a x:Int}
theorem tryS_len {s t:TrS}(hm:GoodM s.m){b:Nat}(h:LenF s.odds b){share:Int}(hs:tryS g fr to x (some s) share=some t):LenF t.odds (b+100)/\GoodM t.m:=by
  unfold tryS at hs
  simp only at hs
  split at hs
  · cases hs
    exact⟨h.mul ((bestR_len hm).2),sentK_good hm _ _ _⟩
  · cases hs
theorem try_len:∀(l:List Int) {s t:TrS} {b:Nat},GoodM s.m->LenF s.odds b->l.foldl (tryS g fr to x) (some s)=some t->LenF t.odds (b+100*l.length)/\GoodM t.m
  |[],s,t,b,hm,h,ht=>by cases ht;exact⟨h,hm⟩
  |y::l,s,t,b,hm,h,ht=>by
    rw[List.foldl_cons]at ht
    cases hq:tryS g fr to x (some s) y with
    |none=>rw[hq,try_none]at ht;cases ht
    |some u=>
      rw[hq]at ht
      obtain⟨h1,h2⟩:=tryS_len hm h hq
      obtain⟨k1,k2⟩:=try_len l h2 h1 ht
      exact⟨k1.up (by simp only[List.length_cons];omega),k2⟩
theorem try_next {l:List Int}{s:TrS}{k:Nat}(hk:k<l.length)(h:(l.take k).foldl (tryS g fr to x) (some ⟨[],⟨1,1⟩,m⟩)=some s):(l.take (k+1)).foldl (tryS g fr to x) (some ⟨[],⟨1,1⟩,m⟩)=tryS g fr to x (some s) (l.getD k 0):=by
  rw[List.take_add_one,List.foldl_append,h]
  simp[List.getD,hk]
theorem try_rest {l:List Int}{k:Nat}(h:(l.take k).foldl (tryS g fr to x) (some ⟨[],⟨1,1⟩,m⟩)=none):l.foldl (tryS g fr to x) (some ⟨[],⟨1,1⟩,m⟩)=none:=by
  rw[<-List.take_append_drop k l,List.foldl_append,h,try_none]
theorem try_cnt {l:List Int}{s t:TrS}(h:l.foldl (tryS g fr to x) (some s)=some t):t.out.length=s.out.length+l.length:=by
  induction l generalizing s with
  |nil=>cases h;rfl
  |cons y l ih=>
    rw[List.foldl_cons]at h
    cases hq:tryS g fr to x (some s) y with
    |none=>rw[hq,try_none]at h;cases h
    |some u=>
      rw[hq]at h
      have:=ih h
      unfold tryS at hq
      simp only at hq
      split at hq
      · cases hq;simp at this ⊢;omega
      · cases hq
theorem tryG_none {n:Int}(h1:¬(n<1\/8<n\/(bestR g m fr to a x).2.2=1))(h:sharesL a n=[]\/(sharesL a n).foldl (tryS g fr to x) (some ⟨[],⟨1,1⟩,m⟩)=none):tryG g m fr to a x n=([],⟨0,0⟩,19):=by
  unfold tryG
  rw[if_neg h1]
  rcases h with h|h
  · rw[h];rfl
  · by_cases e:sharesL a n=[]
    · rw[e];rfl
    · rw[if_neg e,h]
theorem tryG_some {n:Int}{s:TrS}(h1:¬(n<1\/8<n\/(bestR g m fr to a x).2.2=1))(h2:sharesL a n≠[])(h:(sharesL a n).foldl (tryS g fr to x) (some ⟨[],⟨1,1⟩,m⟩)=some s):tryG g m fr to a x n=(s.out,s.odds,0):=by
  unfold tryG
  rw[if_neg h1,if_neg h2,h]
theorem tryG_bad {n:Int}(h1:n<1\/8<n\/(bestR g m fr to a x).2.2=1):tryG g m fr to a x n=([],⟨0,0⟩,1):=by unfold tryG;rw[if_pos h1]
theorem tryG_len (hm:GoodM m){n:Int}:LenF (tryG g m fr to a x n).2.1 900/\(tryG g m fr to a x n).1.length<=8:=by
  unfold tryG
  split
  · exact⟨LenF.nil _,Nat.zero_le _⟩
  · rename_i h
    split
    · exact⟨LenF.nil _,Nat.zero_le _⟩
    · rename_i s hs
      split at hs
      · rw[try_none]at hs;cases hs
      · rename_i hne
        have hna:n<=a:=Decidable.byContradiction fun hna=>hne (by unfold sharesL;rw[if_pos (by omega)])
        have hl:=(sharesL_ok (by omega) (by omega) hna).1
        have b:LenF (⟨1,1⟩:Fr) 1:=⟨digs_len_one (by decide),digs_len_one (by decide)⟩
        have k:=(try_len _ (s:=⟨[],⟨1,1⟩,m⟩) hm b hs).1
        have kc:=try_cnt hs
        refine⟨k.up (by rw[hl];omega),?_⟩
        show s.out.length<=8
        rw[kc,hl]
        show 0+n.toNat<=8
        omega
theorem splitG_spec (hm:GoodM m){n:Int}:(splitG g m fr to a x n=([],⟨0,0⟩,1)/\(n<1\/8<n\/(bestR g m fr to a x).2.2=1))\/(splitG g m fr to a x n=([],⟨0,0⟩,19)/\1<=n/\n<=8)\/
    (∃(s:TrS) (k:Int),splitG g m fr to a x n=(s.out,s.odds,0)/\TrOk g fr to x s/\s.out.map (·.amt)=sharesL a k/\1<=k/\k<=n/\n<=8/\k<=a/\(bestR g m fr to a x).2.2≠1):=by
  by_cases h:n<1\/8<n\/(bestR g m fr to a x).2.2=1
  · left
    refine⟨?_,h⟩
    unfold splitG
    rw[if_pos h]
  · right
    have e:splitG g m fr to a x n=(List.range n.toNat).foldl (splS g m fr to a x) ([],⟨0,0⟩,19):=by unfold splitG;rw[if_neg h]
    rw[e]
    rcases splF_spec (g:=g) (fr:=fr) (to:=to) (a:=a) (x:=x) hm n.toNat with⟨c,_⟩|⟨j,c,d,b⟩
    · exact .inl ⟨c,by omega,by omega⟩
    · right
      rw[d]
      rcases tryG_spec (g:=g) (fr:=fr) (to:=to) (a:=a) (x:=x) hm (n:=(j:Int)+1)with⟨k,_⟩|⟨k,_⟩|⟨s,k1,k2,f,i,t,l,o⟩
      · rw[k]at b;cases b
      · rw[k]at b;cases b
      · exact⟨s,_,k1,k2,f,i,by omega,by omega,l,o⟩
theorem splF_len (hm:GoodM m):∀k:Nat,LenF ((List.range k).foldl (splS g m fr to a x) ([],⟨0,0⟩,19)).2.1 900/\((List.range k).foldl (splS g m fr to a x) ([],⟨0,0⟩,19)).1.length<=8:=fun k=>by
  rcases splF_spec (g:=g) (fr:=fr) (to:=to) (a:=a) (x:=x) hm k with⟨b,_⟩|⟨j,b,c,d⟩
  · rw[b];exact⟨LenF.nil _,Nat.zero_le _⟩
  · rw[c];exact tryG_len hm
theorem splitG_len (hm:GoodM m){n:Int}:LenF (splitG g m fr to a x n).2.1 900/\(splitG g m fr to a x n).1.length<=8:=by
  unfold splitG
  split
  · exact⟨LenF.nil _,Nat.zero_le _⟩
  · exact splF_len hm _
end
end Go.Proofs.YtocheaahlpiajaaGreatDoor

