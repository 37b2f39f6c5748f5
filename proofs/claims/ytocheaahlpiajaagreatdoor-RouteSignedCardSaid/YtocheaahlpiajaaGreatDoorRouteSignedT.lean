/- RouteSigned: for every input the law answers true and leaves its arguments as they were. -/
import Derived.Test.YtocheaahlpiajaaGreatDoorRouteSignedS
import Derived.ProofKit
import Derived.OpenShut
import Derived.ShutString
import Derived.ChangeOld
import Derived.Below
import Derived.Deep.Slices
set_option linter.unusedVariables false
set_option linter.unusedSimpArgs false
namespace Go.Sx
open Go Go.ChangeShapes Go.WideShapes Go.Deep
variable {H:Type}{enc:TypeId×Value->H}{P:Program}{w:World}{base:Nat}{spare:Nat->Bool}{held:Bool}

theorem flatten_get {α:Type}{k:Nat}{f:α->List Value}:∀(qs:List α),(∀q∈qs,(f q).length=k)->∀(j:Nat) (u:Value),((qs.map f).flatten)[j]? =some u->0<k/\∃q,qs[j/k]? =some q/\(f q)[j%k]? =some u
  |[],_,j,u,h=>by simp at h
  |q::qs,hk,j,u,h=>by
    have hq:=hk q (by simp)
    simp only[List.map_cons,List.flatten_cons]at h
    by_cases hj:j<k
    · rw[List.getElem?_append_left (by omega)]at h
      exact⟨by omega,q,by simp[Nat.div_eq_of_lt hj],by rw[Nat.mod_eq_of_lt hj];exact h⟩
    · rw[List.getElem?_append_right (by omega),hq]at h
      obtain⟨hp,r,b,c⟩:=flatten_get qs (fun q hq=>hk q (by simp[hq])) (j-k) u h
      have hd:j/k=(j-k)/k+1:=by rw[Nat.div_eq_sub_div hp (by omega)]
      have hm:j%k=(j-k)%k:=Nat.mod_eq_sub_mod (by omega)
      exact⟨hp,r,by rw[hd];simpa using b,by rw[hm];exact c⟩
theorem flatten_length {α:Type}{k:Nat}{f:α->List Value}:∀(qs:List α),(∀q∈qs,(f q).length=k)->((qs.map f).flatten).length=qs.length*k
  |[],_=>by simp
  |q::qs,hk=>by
    have:=flatten_length qs (fun q hq=>hk q (by simp[hq]))
    simp only[List.map_cons,List.flatten_cons,List.length_append,List.length_cons,this,hk q (by simp)]
    rw[Nat.add_mul,Nat.one_mul,Nat.add_comm]

theorem open_rows {α:Type}[Inhabited α]{f:α->List Value}{good:α->Prop}{t e:TypeId}{k:Nat}{r:Reach}{b0:Nat}{v:Value}{d:DataW H}{ps:List MemPlace}
    (ht:P.underlying t=some (.slice e))(hc:P.cellsOf e=k)(hp:∀fuel cs x,DataW.trod enc P w base spare held fuel e cs=some x->∃q,cs=f q/\good q)
    (hval:Value.okWide P w r b0 t v)(hd:DataW.Trod enc P w base spare held t v d ps):
    ∃(A:Option Addr) (n c:Nat) (qs:List α),v= .slice A n c/\qs.length=n/\(∀q∈qs,good q/\(f q).length=k)/\Sl w k A n (qs.map f).flatten/\n<=c/\c<=maxLen:=by
  obtain⟨A,n,c,rfl⟩:=okWide_slice ht hval
  obtain⟨fuel,hf⟩:=hd
  rcases open_slice ht hf with⟨hcs,_⟩|⟨a,len,cap,m,n',D,Pl,hcs,hb,hl,hm,hmm,hx,hi⟩
  · simp[Value.cells]at hcs
    obtain⟨rfl,rfl,rfl⟩:=hcs
    exact⟨none,0,0,[],rfl,rfl,fun q hq=>by simp at hq,⟨by simp,fun j u h=>by simp at h⟩,Nat.le_refl _,Nat.zero_le _⟩
  · simp[Value.cells]at hcs
    obtain⟨rfl,rfl,rfl⟩:=hcs
    have hlm:n<=m:=by rw[hmm];split<;>omega
    obtain⟨Q,hQ⟩:=choose_lt (α:=α) (p:=fun i q=>w.cells? base (a.add (i*k)) k=some (f q)/\good q) (n:=m) (fun i hi'=>by
      obtain⟨cs',b,l⟩:=hi i hi'
      obtain⟨q,rfl,hg⟩:=hp _ _ _ l
      rw[hc]at b
      exact⟨q,b,hg⟩)
    have hall:∀q∈(List.range n).map Q,good q/\(f q).length=k:=by
      intro q hq
      obtain⟨i,hi',rfl⟩:=List.mem_map.1 hq
      have hin:i<n:=List.mem_range.1 hi'
      obtain⟨b,l⟩:=hQ i (by omega)
      exact⟨l,(World.cells?_some b).2.1⟩
    refine⟨some a,n,c,(List.range n).map Q,rfl,by simp,hall,⟨?_,?_⟩,hl,hm⟩
    · rw[flatten_length _ (fun q hq=>(hall q hq).2)];simp
    · intro j u hu
      obtain⟨o,q,b,l⟩:=flatten_get (k:=k) _ (fun q hq=>(hall q hq).2) j u hu
      have hjn:j/k<n:=by
        have:=(List.getElem?_eq_some_iff.1 b).1
        simpa using this
      rw[List.getElem?_map,List.getElem?_range hjn]at b
      simp at b
      subst b
      obtain⟨s,_⟩:=hQ (j/k) (by omega)
      obtain⟨_,hlen,hcell⟩:=World.cells?_some s
      refine⟨a,rfl,?_⟩
      have:=hcell (j%k) (Nat.mod_lt _ o)
      rw[l,add_add,show j/k*k+j%k=j by rw[Nat.mul_comm];exact Nat.div_add_mod j k]at this
      exact this

theorem flat1 {α β:Type}(f:α->β)(l:List α):(l.map fun q=>[f q]).flatten=l.map f:=by
  induction l with
  |nil=>rfl
  |cons a l ih=>simp[ih]
end Go.Sx

namespace Go.Sx
open Go Go.ChangeShapes Go.WideShapes Go.Deep
variable {H:Type}{enc:TypeId×Value->H}{P:Program}{w:World}{base:Nat}{spare:Nat->Bool}{held:Bool}
theorem read_u64 {e:TypeId}(he:P.underlying e=some (.int .u64)):∀fuel cs x,DataW.trod enc P w base spare held fuel e cs=some x->∃q:Nat,cs=[.int .u64 ((q:Nat):Int)]/\q<18446744073709551616:=by
  intro fuel cs x h
  obtain⟨n,rfl,_,hw⟩:=DataW.trod_int he h
  have:=bounds_u64 hw
  exact⟨n.toNat,by rw[show((n.toNat:Nat):Int)=n by omega],by omega⟩
theorem open_us {t e:TypeId}{r:Reach}{b0:Nat}{v:Value}{d:DataW H}{ps:List MemPlace}(ht:P.underlying t=some (.slice e))(he:P.underlying e=some (.int .u64))(hc:P.cellsOf e=1)
    (hval:Value.okWide P w r b0 t v)(hd:DataW.Trod enc P w base spare held t v d ps):∃A n c,∃xs:List Nat,v= .slice A n c/\(Sl w 1 A n (xs.map fun q=> .int .u64 ((q:Nat):Int))/\∀q∈xs,q<18446744073709551616)/\n<=c/\c<=9223372036854775807:=by
  obtain⟨A,n,c,qs,rfl,k,h,b,i,j⟩:=open_rows (α:=Nat) (f:=fun q=>[.int .u64 ((q:Nat):Int)]) ht hc (read_u64 he) hval hd
  rw[flat1]at b
  exact⟨A,n,c,qs,rfl,⟨b,fun q hq=>(h q hq).1⟩,i,by unfold maxLen at j;omega⟩
end Go.Sx

namespace Go.Sx
open Go Go.ChangeShapes Go.WideShapes Go.Deep
variable {H:Type}{enc:TypeId×Value->H}{P:Program}{w:World}{base:Nat}{spare:Nat->Bool}{held:Bool}
def I64b (n:Int):Prop:= -9223372036854775808<=n/\n<=9223372036854775807
theorem cut1 {α:Type}(cs:List α)(o s:Nat):cs.drop o=(cs.drop o).take s++cs.drop (o+s):=by
  rw[<-List.drop_drop]
  exact(List.take_append_drop s (cs.drop o)).symm
theorem cut0 {α:Type}(cs:List α):cs=cs.drop 0:=rfl
theorem cutN {α:Type}{cs:List α}{n:Nat}(h:cs.length=n):cs.drop n=[]:=List.drop_eq_nil_of_le (by omega)
theorem trod_fields {t:TypeId}{fs:Array Field}{fuel:Nat}{cs:List Value}{x:DataW H×List MemPlace}(ht:P.underlying t=some (.struct fs))(h:DataW.trod enc P w base spare held fuel t cs=some x):
    cs.length=P.cellsOf t/\∃m,∀(i:Nat) (f:Field),fs[i]? =some f->∃y,DataW.trod enc P w base spare held m f.type ((cs.drop f.offset).take (P.cellsOf f.type))=some y:=by
  obtain⟨xs,m,_,_,hl,hxl,hi⟩:=DataW.trod_struct ht h
  refine⟨hl,m,fun i f hf=>?_⟩
  have hlt:i<xs.length:=by rw[hxl];exact(Array.getElem?_eq_some_iff.1 hf).1
  exact⟨_,(hi i f hf).trans (List.getElem?_eq_getElem hlt)⟩
theorem read_i64 {e:TypeId}(he:P.underlying e=some (.int .i64)):∀fuel cs x,DataW.trod enc P w base spare held fuel e cs=some x->∃q:Int,cs=[.int .i64 q]/\I64b q:=by
  intro fuel cs x h
  obtain⟨n,rfl,_,hw⟩:=DataW.trod_int he h
  exact⟨n,rfl,bounds_i64 hw⟩
theorem read_bool {e:TypeId}(he:P.underlying e=some .bool):∀fuel cs x,DataW.trod enc P w base spare held fuel e cs=some x->∃q:Bool,cs=[.bool q]/\True:=by
  intro fuel cs x h
  obtain⟨b,rfl,_⟩:=DataW.trod_bool he h
  exact⟨b,rfl,trivial⟩
theorem open_vec {α:Type}[Inhabited α]{f:α->List Value}{good:α->Prop}{t e:TypeId}{k:Nat}{r:Reach}{b0:Nat}{v:Value}{d:DataW H}{ps:List MemPlace}(ht:P.underlying t=some (.slice e))(hc:P.cellsOf e=k)(hp:∀fuel cs x,DataW.trod enc P w base spare held fuel e cs=some x->∃q,cs=f q/\good q)
    (hval:Value.okWide P w r b0 t v)(hd:DataW.Trod enc P w base spare held t v d ps):∃A n c,∃xs:List α,v= .slice A n c/\(Vec w f k A n xs/\∀h∈xs,good h)/\n<=c/\c<=9223372036854775807:=by
  obtain⟨A,n,c,qs,rfl,b,i,j,l,m⟩:=open_rows (α:=α) (f:=f) (good:=good) ht hc hp hval hd
  exact⟨A,n,c,qs,rfl,⟨⟨b,j⟩,fun q hq=>(i q hq).1⟩,l,by unfold maxLen at m;omega⟩
end Go.Sx

namespace Go.Proofs.YtocheaahlpiajaaGreatDoor
open Tryz
open Go Go.Sx Go.Osp Go.Gsp Go.Asp Go.ChangeShapes Go.WideShapes Go.Deep
set_option maxRecDepth 20000
variable {H:Type}{enc:TypeId×Value->H}{w:World}{base:Nat}{spare:Nat->Bool}{held:Bool}
abbrev GPol:=Pol
abbrev GEdge:=Gsp.Edge
abbrev GSig:=Asp.Sig
abbrev GAd:=Asp.Ad
theorem pv1_vec' {A:Option Addr}{n:Nat}{xs:List Nat}(h:Sl w 1 A n (xs.map fun q=> .int .u64 ((q:Nat):Int))):Vec w pv1 1 A n xs:=by
  refine Sl.vec (g1:=fun q:Nat=>Value.int .u64 ((q:Nat):Int)) h
def goodGPol (q:GPol):Prop:=I64b q.b/\I64b q.p/\I64b q.d/\I64b q.l/\I64b q.m
instance : Inhabited GPol := ⟨noPol⟩
theorem read_GPol:∀fuel cs x,DataW.trod enc prog w base spare held fuel 79 cs=some x->∃q:GPol,cs=polV q/\goodGPol q:=by
  intro fuel cs x h
  obtain⟨hl,m,hi⟩:=trod_fields underlying79 h
  rw[show prog.cellsOf 79=5 by kernel_rfl]at hl
  obtain⟨f,b⟩:=hi 0 _ rfl
  have b:DataW.trod enc prog w base spare held m 3 ((cs.drop 0).take (prog.cellsOf 3))=some f:=b
  rw[show prog.cellsOf 3=1 by kernel_rfl]at b
  obtain⟨i,j,k⟩:=read_i64 underlying3 _ _ _ b
  obtain⟨l,k1⟩:=hi 1 _ rfl
  have k1:DataW.trod enc prog w base spare held m 3 ((cs.drop 1).take (prog.cellsOf 3))=some l:=k1
  rw[show prog.cellsOf 3=1 by kernel_rfl]at k1
  obtain⟨n,o,s⟩:=read_i64 underlying3 _ _ _ k1
  obtain⟨t,k2⟩:=hi 2 _ rfl
  have k2:DataW.trod enc prog w base spare held m 3 ((cs.drop 2).take (prog.cellsOf 3))=some t:=k2
  rw[show prog.cellsOf 3=1 by kernel_rfl]at k2
  obtain⟨u,v,y⟩:=read_i64 underlying3 _ _ _ k2
  obtain⟨z,c⟩:=hi 3 _ rfl
  have c:DataW.trod enc prog w base spare held m 3 ((cs.drop 3).take (prog.cellsOf 3))=some z:=c
  rw[show prog.cellsOf 3=1 by kernel_rfl]at c
  obtain⟨A,C,D⟩:=read_i64 underlying3 _ _ _ c
  obtain⟨F,d⟩:=hi 4 _ rfl
  have d:DataW.trod enc prog w base spare held m 3 ((cs.drop 4).take (prog.cellsOf 3))=some F:=d
  rw[show prog.cellsOf 3=1 by kernel_rfl]at d
  obtain⟨H,I,J⟩:=read_i64 underlying3 _ _ _ d
  have e:=(cut0 cs).trans ((cut1 cs 0 1).trans (congrArg (List.take 1 (cs.drop 0)++ ·) ((cut1 cs 1 1).trans (congrArg (List.take 1 (cs.drop 1)++ ·) ((cut1 cs 2 1).trans (congrArg (List.take 1 (cs.drop 2)++ ·) ((cut1 cs 3 1).trans (congrArg (List.take 1 (cs.drop 3)++ ·) ((cut1 cs 4 1).trans (congrArg (List.take 1 (cs.drop 4)++ ·) (cutN hl)))))))))))
  simp only[j,o,v,C,I]at e
  exact⟨⟨i,n,u,A,H⟩,e,k,s,y,D,J⟩
def goodGEdge (q:GEdge):Prop:=I64b q.f/\I64b q.t/\I64b q.c/\I64b q.r/\goodGPol q.pol
instance : Inhabited GEdge := ⟨noEdge⟩
theorem read_GEdge:∀fuel cs x,DataW.trod enc prog w base spare held fuel 81 cs=some x->∃q:GEdge,cs=edgeV q/\goodGEdge q:=by
  intro fuel cs x h
  obtain⟨hl,m,hi⟩:=trod_fields underlying81 h
  rw[show prog.cellsOf 81=9 by kernel_rfl]at hl
  obtain⟨f,b⟩:=hi 0 _ rfl
  have b:DataW.trod enc prog w base spare held m 3 ((cs.drop 0).take (prog.cellsOf 3))=some f:=b
  rw[show prog.cellsOf 3=1 by kernel_rfl]at b
  obtain⟨i,j,k⟩:=read_i64 underlying3 _ _ _ b
  obtain⟨l,k1⟩:=hi 1 _ rfl
  have k1:DataW.trod enc prog w base spare held m 3 ((cs.drop 1).take (prog.cellsOf 3))=some l:=k1
  rw[show prog.cellsOf 3=1 by kernel_rfl]at k1
  obtain⟨n,o,s⟩:=read_i64 underlying3 _ _ _ k1
  obtain⟨t,k2⟩:=hi 2 _ rfl
  have k2:DataW.trod enc prog w base spare held m 3 ((cs.drop 2).take (prog.cellsOf 3))=some t:=k2
  rw[show prog.cellsOf 3=1 by kernel_rfl]at k2
  obtain⟨u,v,y⟩:=read_i64 underlying3 _ _ _ k2
  obtain⟨z,c⟩:=hi 3 _ rfl
  have c:DataW.trod enc prog w base spare held m 3 ((cs.drop 3).take (prog.cellsOf 3))=some z:=c
  rw[show prog.cellsOf 3=1 by kernel_rfl]at c
  obtain⟨A,C,D⟩:=read_i64 underlying3 _ _ _ c
  obtain⟨F,d⟩:=hi 4 _ rfl
  have d:DataW.trod enc prog w base spare held m 79 ((cs.drop 4).take (prog.cellsOf 79))=some F:=d
  rw[show prog.cellsOf 79=5 by kernel_rfl]at d
  obtain⟨H,I,J⟩:=read_GPol _ _ _ d
  have e:=(cut0 cs).trans ((cut1 cs 0 1).trans (congrArg (List.take 1 (cs.drop 0)++ ·) ((cut1 cs 1 1).trans (congrArg (List.take 1 (cs.drop 1)++ ·) ((cut1 cs 2 1).trans (congrArg (List.take 1 (cs.drop 2)++ ·) ((cut1 cs 3 1).trans (congrArg (List.take 1 (cs.drop 3)++ ·) ((cut1 cs 4 5).trans (congrArg (List.take 5 (cs.drop 4)++ ·) (cutN hl)))))))))))
  simp only[j,o,v,C,I]at e
  exact⟨⟨i,n,u,A,H⟩,e,k,s,y,D,J⟩
def goodGSig (q:GSig):Prop:=q.r<18446744073709551616/\q.s<18446744073709551616
instance : Inhabited GSig := ⟨noSig⟩
theorem read_GSig:∀fuel cs x,DataW.trod enc prog w base spare held fuel 138 cs=some x->∃q:GSig,cs=sigV q/\goodGSig q:=by
  intro fuel cs x h
  obtain⟨hl,m,hi⟩:=trod_fields underlying138 h
  rw[show prog.cellsOf 138=2 by kernel_rfl]at hl
  obtain⟨c,b⟩:=hi 0 _ rfl
  have b:DataW.trod enc prog w base spare held m 43 ((cs.drop 0).take (prog.cellsOf 43))=some c:=b
  rw[show prog.cellsOf 43=1 by kernel_rfl]at b
  obtain⟨d,f,i⟩:=read_u64 underlying43 _ _ _ b
  obtain⟨j,k1⟩:=hi 1 _ rfl
  have k1:DataW.trod enc prog w base spare held m 28 ((cs.drop 1).take (prog.cellsOf 28))=some j:=k1
  rw[show prog.cellsOf 28=1 by kernel_rfl]at k1
  obtain⟨k,l,n⟩:=read_u64 underlying28 _ _ _ k1
  have e:=(cut0 cs).trans ((cut1 cs 0 1).trans (congrArg (List.take 1 (cs.drop 0)++ ·) ((cut1 cs 1 1).trans (congrArg (List.take 1 (cs.drop 1)++ ·) (cutN hl)))))
  simp only[f,l]at e
  exact⟨⟨d,k⟩,e,i,n⟩
def goodGAd (q:GAd):Prop:=goodGEdge q.e/\I64b q.no/\True/\goodGSig q.sg
instance : Inhabited GAd := ⟨noAd⟩
theorem read_GAd:∀fuel cs x,DataW.trod enc prog w base spare held fuel 140 cs=some x->∃q:GAd,cs=adV q/\goodGAd q:=by
  intro fuel cs x h
  obtain⟨hl,m,hi⟩:=trod_fields underlying140 h
  rw[show prog.cellsOf 140=13 by kernel_rfl]at hl
  obtain⟨d,b⟩:=hi 0 _ rfl
  have b:DataW.trod enc prog w base spare held m 81 ((cs.drop 0).take (prog.cellsOf 81))=some d:=b
  rw[show prog.cellsOf 81=9 by kernel_rfl]at b
  obtain⟨f,i,j⟩:=read_GEdge _ _ _ b
  obtain⟨k,k1⟩:=hi 1 _ rfl
  have k1:DataW.trod enc prog w base spare held m 3 ((cs.drop 9).take (prog.cellsOf 3))=some k:=k1
  rw[show prog.cellsOf 3=1 by kernel_rfl]at k1
  obtain⟨l,n,o⟩:=read_i64 underlying3 _ _ _ k1
  obtain⟨s,k2⟩:=hi 2 _ rfl
  have k2:DataW.trod enc prog w base spare held m 4 ((cs.drop 10).take (prog.cellsOf 4))=some s:=k2
  rw[show prog.cellsOf 4=1 by kernel_rfl]at k2
  obtain⟨t,u,v⟩:=read_bool underlying4 _ _ _ k2
  obtain⟨y,c⟩:=hi 3 _ rfl
  have c:DataW.trod enc prog w base spare held m 138 ((cs.drop 11).take (prog.cellsOf 138))=some y:=c
  rw[show prog.cellsOf 138=2 by kernel_rfl]at c
  obtain⟨z,A,C⟩:=read_GSig _ _ _ c
  have e:=(cut0 cs).trans ((cut1 cs 0 9).trans (congrArg (List.take 9 (cs.drop 0)++ ·) ((cut1 cs 9 1).trans (congrArg (List.take 1 (cs.drop 9)++ ·) ((cut1 cs 10 1).trans (congrArg (List.take 1 (cs.drop 10)++ ·) ((cut1 cs 11 2).trans (congrArg (List.take 2 (cs.drop 11)++ ·) (cutN hl)))))))))
  simp only[i,n,u,A]at e
  exact⟨⟨f,l,t,z⟩,e,j,o,v,C⟩
theorem open_gads {r:Reach}{b0:Nat}{v:Value}{d:DataW H}{ps:List MemPlace}(hval:Value.okWide prog w r b0 132 v)(hd:DataW.Trod enc prog w base spare held 132 v d ps):∃A n c,∃xs:List GAd,v= .slice A n c/\(Vec w adV 13 A n xs/\∀h∈xs,goodGAd h)/\n<=c/\c<=9223372036854775807:=open_vec underlying132 (show prog.cellsOf 140=13 by kernel_rfl) read_GAd hval hd
end Go.Proofs.YtocheaahlpiajaaGreatDoor

namespace Go.Proofs.YtocheaahlpiajaaGreatDoor
open Tryz
open Go Go.Sx Go.Hsp Go.Num Go.Osp Go.Gsp Go.Asp Go.Bsp Go.Stab Go.Nsp Go.Msp Go.Rtp
set_option maxRecDepth 20000
theorem stab_right {l zs:List Gsp.Edge}(h:Stab ltE (l.filter edgeOk) zs)(hr:rightG l=true):zs=l:=by
  have:=right_srt hr
  rw[this.2]at h
  exact Stab.same swoE this.1 h
theorem ver_r {p:Nat}{a:Asp.Ad}(h:verifyA p a=true):a.sg.r<18446744073709551616:=by
  unfold verifyA verifyB checksB at h
  simp only[Bool.and_eq_true]at h
  have b:=((right_iff _).1 h.2.1.1.2).2.1
  have c:M<18446744073709551616:=by decide
  omega
theorem of_book {s:BookS}(hgd:GoodB s){A:Option Addr}{n c:Nat}(w:World)(hV:Vec w edgeV 9 A n (edgesB s))(hn:n<=1000000):Calls prog 67 #[.slice A n c] w fun r w'=>∃A' c',r= .returned (.slice A' (edgesB s).length c')/\OVec w' w.heap.size 81 edgeV 9 A' (edgesB s).length c' (edgesB s)/\Le w w':=by
  refine Calls.mono (ofE_ok (c:=c) w hV hn) ?_
  rintro r w' ⟨A',c',zs,d,e,b,f⟩
  have h:=stab_right e (edges_right hgd)
  subst h
  have i:=b.1
  rw[<-i]at d b
  exact⟨A',c',d,b,f⟩
theorem edge_got {s:BookS}(hs:GoodB s){e:Gsp.Edge}(he:e∈edgesB s):∃a,s.nw (Bsp.Sd.mk e.c e.f)=some a/\a.gone=false/\a.e=e/\0<=e.f/\e.f<s.keys.length/\verifyA (s.keys.getD e.f.toNat 0) a=true:=by
  unfold edgesB at he
  obtain⟨a,ha,rfl⟩:=List.mem_map.1 he
  obtain⟨d,h⟩:=List.mem_filter.1 ha
  have b:=((adsB_is hs).2 a).1 d
  obtain⟨m,i,j,k⟩:=hs.at_ _ _ b
  have l:=edgeA_T (mayA_T i).1
  exact⟨a,b,by simpa using h,rfl,l.1.1,j,k⟩
theorem way_sub {g:List Gsp.Edge}{m:MF}{fr to a x:Int}(hm:GoodM m):((bestR g m fr to a x).2.2=0↔0<(bestR g m fr to a x).1.length)/\∀j,j<(bestR g m fr to a x).1.length->(bestR g m fr to a x).1.getD j noEdge∈g:=by
  by_cases h:(bestR g m fr to a x).2.2=0
  · have hb:=best_all hm h
    have hl:=wayG_len hb.2.1.way
    exact⟨⟨fun _=>by omega,fun _=>h⟩,fun j hj=>hb.2.1.sub _ (getD_in (z:=noEdge) hj)⟩
  · have hb:=(best_err hm h).1
    rw[hb]
    exact⟨⟨fun hh=>absurd hh h,fun hh=>absurd hh (Nat.not_lt_zero _)⟩,fun j hj=>absurd hj (Nat.not_lt_zero _)⟩
set_option maxHeartbeats 4000000 in
theorem RouteSigned_ok (fr to a x:Int) {Ak Al:Option Addr} {n ck n2 c2:Nat} {ks:List Nat} {l:List Asp.Ad} (w:World) (hT:Tab w) (hK:Vec w pv1 1 Ak n ks) (hL:Vec w adV 13 Al n2 l) (hlg:∀t∈l,goodGAd t) (hn:n<=9223372036854775807) (hn2:n2<=9223372036854775807):Calls prog 12 #[.slice Ak n ck,.slice Al n2 c2,.int .i64 (fr),.int .i64 (to),.int .i64 (a),.int .i64 (x)] w fun r w'=>r= .returned (.bool true)/\Le w w':=by
 have hl:=hK.1;have bU:=hL.1
 have hgm:GoodM (fun _=>none:MF):=none_good
 refine enter func12 rfl rfl ?_
 have L0:=Le.refl w
 refine Sr (Wn 1 rfl (Nx (Sr (W.cl go48 rfl rfl (small38_ok w (hT.le L0)) ?_))))
 rintro _ A ⟨rfl,bb⟩
 have L1:=L0.trans bb
 refine Wn 1 rfl (Nx (Sq (Sr (Wn 1 rfl (Wr (.len underlying35 rfl) rfl (Wn 1 rfl ?_))))))
 by_cases aI:12<((n:Nat):Int)
 ·refine Dt aI rfl rfl (Wn 4 rfl (Nx (WC.condT rfl (Sr (Wn 2 rfl (Nx (Rt (E.thenR (E.retG1 rfl rfl ?_)))))))))
  exact⟨rfl,L1⟩
 refine Df aI rfl rfl (Wn 1 rfl (Wg (.len underlying132 rfl) rfl (Wn 2 rfl (Nx ?_))))
 by_cases c0:12<((n2:Nat):Int)
 ·refine Cy rfl (dT c0) (Sr (Wn 2 rfl (Nx (Rt (E.thenR (E.retG1 rfl rfl ?_))))))
  exact⟨rfl,L1⟩
 refine Cn rfl (dF c0) (Sn (Sr (Wn 1 rfl (Nx (Sq (Sr (Wn 1 rfl (Nx (WC.block (WC.loop (ι:=Nat×((Option Addr))×Nat×((List Nat))) (fun⟨i,Ao,co,kl⟩=>[(0,.slice Ak n ck),(1,.slice Al n2 c2),(2,.int .i64 (fr)),(3,.int .i64 (to)),(4,.int .i64 (a)),(5,.int .i64 (x)),(13,.bool true),(14,.slice Ao i co),(15,.int .i64 (((i:Nat):Int)))]) (fun⟨i,Ao,co,kl⟩ C=>(i<=n)/\(∀k∈kl,k<18446744073709551616)/\Le w C/\A.heap.size<=C.heap.size/\OVec C A.heap.size 43 pv1 1 Ao i co kl) (fun⟨i,Ao,co,kl⟩=>n-i) (0,none,0,[]) ?_ ?_ ?_))))))))))
 ·exact .of rfl
 ·exact⟨Nat.zero_le _,(fun k hk=>by cases hk),L1,Nat.le_refl _,(OVec.nil A A.heap.size 43 pv1 1 none)⟩
 rintro⟨i,Ao,co,kl⟩ C ⟨hi,hkb,af,bc,Q⟩
 have aJ:A.heap.size<=C.heap.size:=by omega
 refine Sq (Sr (Wn 2 rfl (Wr (.len underlying35 rfl) rfl (Wn 1 rfl (Nx ?_)))))
 by_cases c1:((i:Nat):Int)<((n:Nat):Int)
 ·refine Cy rfl (dT c1) (Sn (Sq (WC.block (WC.region (Wn 3 rfl (Wa (.idxS (i) underlying35 sz28 rfl rfl (hK.isSome pv1_row (by omega)) (rfl) (by omega)) rfl (Wr (.vone (v:= .int .u64 ((((ks.getD i 0):Nat):Int))) na28 rfl (hK.le af) pv1_row (getS ks 0 (by omega)) rfl) rfl (Wa (.remN (ks.getD i 0) 2305843009213688668 ((ks.getD i 0)%2305843009213688668) rfl rfl rfl rfl (by decide) (rfl)) rfl (Wa (.addN 1 ((ks.getD i 0)%2305843009213688668) (1+((ks.getD i 0)%2305843009213688668)) rfl rfl rfl rfl (by omega)) rfl ?_)))))))))
  refine W.cl go20 rfl rfl (base_ok (1+((ks.getD i 0)%2305843009213688668)) C) ?_
  rintro _ bd ⟨rfl,ah⟩
  refine W.ef rfl rfl rfl (Ef.buildSliceV (len:=1) [_] underlying39 el43 rfl (by simp[Value.cells]) rfl (by decide) (by decide) ?_)
  intro aK aL be ai aj
  have ai:Blk aL aK 43 (([base (1+((ks.getD i 0)%2305843009213688668))]).map pv1).flatten.toArray:=ai
  have bV:OVec aL bd.heap.size 43 pv1 1 (some ⟨aK,0,none⟩) 1 1 ([base (1+((ks.getD i 0)%2305843009213688668))]):=ai.ovec be pv1_row rfl rfl (by decide)
  have f4:=(Q.le (ah.trans aj))
  refine W.ef rfl rfl rfl (Ef.vpush (a:=(base (1+((ks.getD i 0)%2305843009213688668)))) underlying39 el43 underlying39 pv1_row rfl f4 rfl ai (by omega) (by unfold maxLen;omega) (by have:=aJ;have:=ah.size;have:=aj.size;omega) ?_)
  intro bf bg bW bh aM bX
  refine Wn 1 rfl (W.nil (E.blkN (E.thenN (WC.region (Wn 1 rfl (Wa (.add rfl rfl (by omega)) rfl (Wn 1 rfl (W.nil (E.again (i+1,bf,bg,(kl++[base (1+((ks.getD i 0)%2305843009213688668))])) (.of rfl) ?_ ?_)))))))))
  ·exact⟨by omega,(fun k hk=>by rcases List.mem_append.1 hk with h|h;exact hkb k h;rw[List.mem_singleton.1 h];exact b_lt _),(((af.trans ah).trans aj).then_ aM (fun q hq=>Nat.le_trans L1.size (f4.row hq).1)),by have:=bc;have:=ah.size;have:=aj.size;have:=aM.size;omega,bh⟩
  first|omega|(simp only[];omega)
 refine Cn rfl (dF c1) (WC.exit (E.thenX (E.thenX (E.blkH (E.thenN (Sr (Wn 1 rfl (W.cl go63 rfl rfl (new_book C Q.vec (by omega) (hkb)) ?_))))))))
 rintro _ aO ⟨ak,bi,rfl,aP,aq⟩
 refine Wn 1 rfl (Nx (Sr (W.cl go64 rfl rfl (new_mind aO) ?_)))
 rintro _ bj ⟨aQ,al,rfl,aR,am⟩
 refine Wn 1 rfl (Nx (Sq (Sr (Wn 1 rfl (Wa (.dec (.isNilP (by kernel_rfl) rfl) rfl) rfl (Wn 2 rfl (Wg (Any.rd (.dec (.isNilP (by kernel_rfl) rfl) rfl) _) rfl (Wn 1 rfl (Nx (WC.condF rfl (Sn (Sq (Sr (Wn 1 rfl (Nx (WC.block ?_))))))))))))))))
 refine WC.loop (ι:=Nat×(Nat->Prop)×BookS) (fun⟨i2,F,s⟩=>[(1,.slice Al n2 c2),(2,.int .i64 (fr)),(3,.int .i64 (to)),(4,.int .i64 (a)),(5,.int .i64 (x)),(13,.bool true),(14,.slice Ao i co),(16,.pointer (some ⟨ak,0,none⟩)),(17,.pointer (some ⟨aQ,0,none⟩)),(18,.int .i64 (((i2:Nat):Int)))]) (fun⟨i2,F,s⟩ I=>(i2<=n2)/\(s.keys=kl)/\Le w I/\bj.heap.size<=I.heap.size/\OVec I A.heap.size 43 pv1 1 Ao i co kl/\BPool I C.heap.size ak F s/\MPool I aO.heap.size aQ al (fun _=>none:MF)/\(∀k,F k->¬al k)) (fun⟨i2,F,s⟩=>n2-i2) (0,bi,(bookN kl)) ?_ ?_ ?_
 ·exact .of rfl
 ·exact⟨Nat.zero_le _,rfl,((af.trans aq).trans am),Nat.le_refl _,(Q.le (aq.trans am)),(aP.le am),aR,(fun k h1 h2=>by have:=aR.old h2;have:=aP.lt h1;omega)⟩
 rintro⟨i2,F,s⟩ I ⟨bY,hsk,ar,bk,au,aa,av,bl⟩
 have bm:A.heap.size<=I.heap.size:=Nat.le_trans aJ (by have:=aq.size;have:=am.size;omega)
 refine Sq (Sr (Wn 2 rfl (Wr (.len underlying132 rfl) rfl (Wn 1 rfl (Nx ?_)))))
 by_cases c3:((i2:Nat):Int)<((n2:Nat):Int)
 ·refine Cy rfl (dT c3) (Sn (Sq (WC.block (WC.region (Wn 3 rfl (Wa (.idxS (i2) underlying132 sz140 rfl rfl (hL.isSome adV_row (by omega)) (rfl) (by omega)) rfl (Wr (.vload ag140 rfl (hL.le ar) adV_row (getS l noAd (by omega))) rfl (W.cl go65 rfl rfl (take_book (l.getD i2 noAd) 50 ((hlg _ (getD_mem' (by omega))).2.2.2.1) aa) ?_))))))))
  rintro _ bZ ⟨aS,rfl,bn,bo,an⟩
  have bp:=ar.chP_then an (fun i hi=>Nat.le_trans af.size (aa.old hi))
  have bq:=au.chP an (show∀g,rowOf Ao co=some g->¬F g from(fun g hg hF=>by have:=aa.old hF;have:=(Q.row hg).2;omega))
  have aT:=(show∀k,al k->¬F k from(fun k h1 h2=>bl k h2 h1))
  have bs:=av.chP an aT
  have bt:∀k,al k->¬aS k:=fun k hk hF=>(bo _ hF).elim (aT k hk) (fun hz=>by have:=av.lt hk;omega)
  refine W.nil (E.blkN (E.thenN (WC.region (Wn 1 rfl (Wa (.add rfl rfl (by omega)) rfl (Wn 1 rfl (W.nil (E.again (i2+1,aS,(takeS s (l.getD i2 noAd) 50)) (.of rfl) ?_ ?_))))))))
  ·exact⟨by omega,by rw[takeS_keys];exact hsk,bp,by have:=bk;have:=an.size;omega,bq,bn,bs,(fun k h1 h2=>bt k h2 h1)⟩
  first|omega|(simp only[];omega)
 refine Cn rfl (dF c3) (WC.exit (E.thenX (E.thenX (E.blkH (E.thenN (Sr (Wn 1 rfl (W.cl go66 rfl rfl (edges_book (w:=I) (s:=s) aa) ?_))))))))
 rintro _ bu ⟨b0,bv,rfl,aU,R⟩
 refine Wn 1 rfl (Nx (Sr ?_))
 have aw:=(aa.le R)
 have hgd:=aw.good
 have hgl:=edges_len s
 refine Wn 1 rfl (W.cl go67 rfl rfl (of_book hgd (c:=bv) bu aU.vec (by omega)) ?_)
 rintro _ bw ⟨b2,bx,rfl,aV,J⟩
 refine Wn 1 rfl (Nx (Sq (Sr (Wn 1 rfl (W.cl go68 rfl rfl (gright_ok bw aV.vec (by omega)) ?_)))))
 rintro _ bz ⟨rfl,D⟩
 refine Wa (.dec (.not rfl) (congrArg not (edges_right hgd))) rfl (Wn 3 rfl ?_)
 have aW:=(aV.le D)
 refine W.efg rfl rfl rfl (rfl) rfl rfl (Ef.call go47 rfl rfl (same_ok bz aW.vec (aU.le (J.trans D)).vec (by omega)) ?_)
 rintro _ ax ⟨rfl,K⟩
 refine⟨_,rfl,?_⟩
 refine Wg (Any.rd (.dec (.not rfl) (congrArg not (dT rfl))) _) rfl (Wn 1 rfl (Nx (WC.condF rfl (Sn (Sr (Wn 6 rfl ?_))))))
 obtain⟨b,ay⟩:∃z,z=bestR (edgesB s) (fun _=>none:MF) fr to a x:=⟨_,rfl⟩
 have bA:=bestR_len (g:=(edgesB s)) (fr:=fr) (to:=to) (a:=a) (x:=x) hgm
 rw[<-ay]at bA
 refine W.cl go46 rfl rfl ((by have k:=rbest_ok (c:=bx) fr to a x ax (av.le (R.trans (J.trans (D.trans K)))) (aW.le K).vec (by omega);rw[<-ay]at k;exact k)) ?_
 rintro _ b3 ⟨aX,aY,bB,bC,bD,bE,rfl,u,b4,b5,O⟩
 have aZ:=((((ar.trans R).trans J).trans D).trans K).trans O
 refine Wn 1 rfl ?_
 have hws:=way_sub (g:=(edgesB s)) (m:=(fun _=>none:MF)) (fr:=fr) (to:=to) (a:=a) (x:=x) hgm
 rw[<-ay]at hws
 refine Wn 1 rfl (Wa (.extract (v:= .agg #[.slice bB ((digs b.2.1.n).length) bC,.slice bD ((digs b.2.1.d).length) bE]) rfl rfl) rfl (Wn 1 rfl (W.ef rfl rfl rfl (Ef.allocA z61 fun bF bG a0 (bH:Blk bG bF 61 #[.slice none 0 0,.slice none 0 0]) S=>(Wn 1 rfl (W.sA sz61 rfl rfl bH ?_))))))
 intro bI b6 T
 refine Wn 1 rfl (Nx (Sq (Sr (Wn 1 rfl (Nx (WC.block ?_))))))
 have bJ:=((aw.le (J.trans (D.trans (K.trans (O.trans S))))).ch T (fun q hqq hF=>by cases hqq;have:=aw.lt hF;have:=J.size;have:=D.size;have:=K.size;have:=O.size;have:=a0;omega))
 refine WC.loop (ι:=Nat) (fun j=>[(13,.bool true),(14,.slice Ao i co),(16,.pointer (some ⟨ak,0,none⟩)),(21,.slice aX b.1.length aY),(23,.int .i64 (b.2.2)),(24,.int .i64 (((j:Nat):Int)))]) (fun j L=>(j<=b.1.length)/\Le w L/\bI.heap.size<=L.heap.size/\OVec L A.heap.size 43 pv1 1 Ao i co kl/\BPool L C.heap.size ak F s/\OVec L ax.heap.size 81 edgeV 9 aX b.1.length aY b.1) (fun j=>b.1.length-j) 0 ?_ ?_ ?_
 ·exact .of rfl
 ·exact⟨Nat.zero_le _,((aZ.trans S).tb T aZ a0),Nat.le_refl _,((au.le (R.trans (J.trans (D.trans (K.trans (O.trans S)))))).cb T (au.rn (by have:=R.size;have:=J.size;have:=D.size;have:=K.size;have:=O.size;omega))),bJ,((u.le S).cb T (u.rn (by omega)))⟩
 rintro j L ⟨hj,a1,a2,bK,az,bL⟩
 have b7:A.heap.size<=L.heap.size:=Nat.le_trans bm (by have:=R.size;have:=J.size;have:=D.size;have:=K.size;have:=O.size;have:=S.size;have:=T.size;omega)
 have b8:ax.heap.size<=L.heap.size:=by have:=O.size;have:=S.size;have:=T.size;omega
 refine Sq (Sr (Wn 2 rfl (Wr (.len underlying32 rfl) rfl (Wn 1 rfl (Nx ?_)))))
 by_cases c5:((j:Nat):Int)<((b.1.length:Nat):Int)
 ·refine Cy rfl (dT c5) (Sn (Sq (WC.block (Sq (WC.drawT (fun o=>(app o [0,1,2,3,4,5,6,7,8,9,10] (.br (app o [11,12,13,14,15,16,17] .nil) (app o [15,11,12,13,14,16,17] .nil)))) mixed (by kernel_rfl) fun b9 N=>?_)))))
  have aA:=a1.trans N
  refine GT.app ?_
  have ab:=(bK.le N)
  have hkl:=ab.1
  obtain⟨ad,g1,g2,g3,g4,g5,g6⟩:=edge_got hgd (hws.2 j (by omega))
  rw[hsk]at g5 g6
  rw[hkl]at g5
  refine Gn 3 rfl (Ga rfl (.idxS (j) underlying32 sz81 rfl rfl (u.vec.isSome edgeV_row (by omega)) (rfl) (by omega)) (Ga rfl (.vfield fa81_2 (u.vec.isSome edgeV_row (by omega)) rfl) ?_))
  have U:=(bL.le N)
  refine Gd rfl (.vcell (j:=j) (o:=2) (v:= .int .i64 ((b.1.getD j noEdge).c)) na3 rfl U.vec edgeV_row (getS b.1 noEdge (by first|omega|(simp only[List.length_cons,List.length_nil];omega))) rfl) ?_
  refine Gn 2 rfl (Ga rfl (.idxS (j) underlying32 sz81 rfl rfl (u.vec.isSome edgeV_row (by omega)) (rfl) (by omega)) (Ga rfl (.vfield fa81_0 (u.vec.isSome edgeV_row (by omega)) rfl) (Gd rfl (.vcell (j:=j) (o:=0) (v:= .int .i64 ((b.1.getD j noEdge).f)) na3 rfl U.vec edgeV_row (getS b.1 noEdge (by first|omega|(simp only[List.length_cons,List.length_nil];omega))) rfl) ?_)))
  refine G.nil (GT.br ?_ ?_)
  ·refine GT.last ?_
   have aB:=(az.le N)
   refine G.ef rfl rfl rfl rfl rfl (Ef.call go69 rfl rfl ((by have h:=get_book ((b.1.getD j noEdge).c) ((b.1.getD j noEdge).f) aB;rw[g1]at h;exact h)) ?_)
   rintro _ ca ⟨rfl,H⟩
   refine⟨_,rfl,?_⟩
   refine⟨fun _=>H,?_⟩
   have a3:=aA.trans H
   refine Gn 1 rfl (Ga rfl (.extract (v:= .agg (adV ad).toArray) rfl rfl) (Gn 1 rfl (G.ef rfl rfl rfl rfl rfl (Ef.allocA z140 fun a4 bM a5 (bN:Blk bM a4 140 (adV noAd).toArray) V=>⟨fun _=>V,?_⟩))))
   refine G.ef0 rfl rfl rfl rfl (Ef.storeAll sz140 (by rfl) rfl rfl bN (by simp only[List.size_toArray,adV_row.len]) (adV_row.one ad) ?_)
   intro bO aC ac
   refine noT (by kernel_rfl) ?_
   have aC:Blk bO a4 140 (adV ad).toArray:=aC
   refine Gn 1 rfl (G.nil (E.thenN (Sq (WC.draw [0,1,2,3,4,5,6,7,8,9,10,11,12,13,14,15,16,17,18,19,20,21,22,23,24,25,26,27,28,29,30,31,32,33,34,35,36,37] mixed (by kernel_rfl) fun aE y=>(Gn 3 rfl (Gag rfl (.field0 fa140_2 rfl) ?_))))))
   have aF:=(aC.le y)
   refine Gdg rfl (.dec (.loadB (v:= .bool (ad.gone)) na4 rfl aF rfl) (g2)) (Gn 2 rfl (Gag rfl (.field0 fa140_0 rfl) (Gdg rfl (.bpart (edgeV ad.e) ag81 rfl (by decide) rfl aF rfl) (Gn 2 rfl (Gag rfl (.idxS (j) underlying32 sz81 rfl rfl (u.vec.isSome edgeV_row (by omega)) (rfl) (by omega)) ?_)))))
   have ao:=(((U.le (H.trans V)).cb ac (U.rn (by have:=H.size;omega))).le y)
   refine Gdg rfl (.vload ag81 rfl ao.vec edgeV_row (getS b.1 noEdge (by first|omega|(simp only[List.length_cons,List.length_nil];omega)))) ?_
   refine Gag rfl (.dec (.neA eg81 rfl rfl (eqv_edge (d:=9997) _ _)) (show(!decide (ad.e=(b.1.getD j noEdge)))=false from by rw[g3];simp)) ?_
   refine Gn 4 rfl (Gag rfl (.idxS (j) underlying32 sz81 rfl rfl (u.vec.isSome edgeV_row (by omega)) (rfl) (by omega)) (Gag rfl (.vfield fa81_0 (u.vec.isSome edgeV_row (by omega)) rfl) (Gdg rfl (.vcell (j:=j) (o:=0) (v:= .int .i64 ((b.1.getD j noEdge).f)) na3 rfl ao.vec edgeV_row (getS b.1 noEdge (by first|omega|(simp only[List.length_cons,List.length_nil];omega))) rfl) ?_)))
   refine Gn 1 rfl (Gdg rfl (.len underlying39 rfl) (Gag rfl (.dec (.geq rfl rfl) (dF (by omega))) (Gn 5 rfl (Gag rfl (.idxS (j) underlying32 sz81 rfl rfl (u.vec.isSome edgeV_row (by omega)) (rfl) (by omega)) (Gag rfl (.vfield fa81_0 (u.vec.isSome edgeV_row (by omega)) rfl) ?_)))))
   refine Gdg rfl (.vcell (j:=j) (o:=0) (v:= .int .i64 ((b.1.getD j noEdge).f)) na3 rfl ao.vec edgeV_row (getS b.1 noEdge (by first|omega|(simp only[List.length_cons,List.length_nil];omega))) rfl) ?_
   refine Gag rfl (.idxS ((b.1.getD j noEdge).f.toNat) underlying39 sz43 rfl rfl (Q.vec.isSome pv1_row (by omega)) (by omega) (by omega)) ?_
   have a6:=(((ab.le (H.trans V)).cb ac (ab.rn (by have:=H.size;omega))).le y)
   refine Gdg rfl (.vone (v:= .int .u64 ((((kl.getD ((b.1.getD j noEdge).f.toNat) 0):Nat):Int))) na43 rfl a6.vec pv1_row (getS kl 0 (by omega)) rfl) (Gdg rfl (.loadAll ag140 (by rfl) rfl aF) ?_)
   refine G.efg rfl rfl rfl rfl rfl (rfl) rfl rfl (Ef.call go70 rfl rfl (averify_ok (kl.getD ((b.1.getD j noEdge).f.toNat) 0) ad (hkb _ (getD_mem' (by omega))) (ver_r g6) aE) ?_)
   rintro _ cc ⟨rfl,X⟩
   refine⟨_,rfl,?_⟩
   refine⟨fun _=>X,?_⟩
   refine Gag rfl (.dec (.not rfl) (congrArg not g6)) (Gn 1 rfl (G.nil (E.thenN (WC.condF rfl (WC.skip (E.blkN (E.thenN (WC.region (Wn 1 rfl (Wa (.add rfl rfl (by omega)) rfl (Wn 1 rfl (W.nil ?_))))))))))))
   have bP:=(((aB.le (H.trans V)).ch ac (fun q hqq hF=>by cases hqq;have:=aB.lt hF;have:=H.size;have:=a5;omega)).le (y.trans X))
   refine E.again (j+1) (.of rfl) ?_ ?_
   ·exact⟨by omega,((((a3.trans V).tb ac a3 a5).trans y).trans X),by have:=a2;have:=N.size;have:=H.size;have:=V.size;have:=ac.size;have:=y.size;have:=X.size;omega,(a6.le X),bP,(ao.le X)⟩
   first|omega|(simp only[];omega)
  refine GT.last (G.ef rfl rfl rfl rfl rfl (Ef.allocA z140 fun a7 bQ a8 (bR:Blk bQ a7 140 (adV noAd).toArray) Y=>⟨fun _=>Y,?_⟩))
  have a9:=(az.le (N.trans Y))
  refine G.ef rfl rfl rfl rfl rfl (Ef.call go69 rfl rfl ((by have h:=get_book ((b.1.getD j noEdge).c) ((b.1.getD j noEdge).f) a9;rw[g1]at h;exact h)) ?_)
  rintro _ cd ⟨rfl,P⟩
  refine⟨_,rfl,?_⟩
  refine⟨fun _=>P,?_⟩
  refine Gn 1 rfl (Ga rfl (.extract (v:= .agg (adV ad).toArray) rfl rfl) (Gn 1 rfl (G.ef0 rfl rfl rfl rfl (Ef.storeAll sz140 (by rfl) rfl rfl (bR.le P) (by simp only[List.size_toArray,adV_row.len]) (adV_row.one ad) ?_))))
  intro bS aG ae
  refine noT (by kernel_rfl) ?_
  have aG:Blk bS a7 140 (adV ad).toArray:=aG
  refine Gn 1 rfl (G.nil (E.thenN (Sq (WC.draw [0,1,2,3,4,5,6,7,8,9,10,11,12,13,14,15,16,17,18,19,20,21,22,23,24,25,26,27,28,29,30,31,32,33,34,35,36,37] mixed (by kernel_rfl) fun aE y=>(Gn 3 rfl (Gag rfl (.field0 fa140_2 rfl) ?_))))))
  have aH:=(aG.le y)
  refine Gdg rfl (.dec (.loadB (v:= .bool (ad.gone)) na4 rfl aH rfl) (g2)) (Gn 2 rfl (Gag rfl (.field0 fa140_0 rfl) (Gdg rfl (.bpart (edgeV ad.e) ag81 rfl (by decide) rfl aH rfl) (Gn 2 rfl (Gag rfl (.idxS (j) underlying32 sz81 rfl rfl (u.vec.isSome edgeV_row (by omega)) (rfl) (by omega)) ?_)))))
  have ap:=(((U.le (Y.trans P)).cb ae (U.rn (by omega))).le y)
  refine Gdg rfl (.vload ag81 rfl ap.vec edgeV_row (getS b.1 noEdge (by first|omega|(simp only[List.length_cons,List.length_nil];omega)))) ?_
  refine Gag rfl (.dec (.neA eg81 rfl rfl (eqv_edge (d:=9997) _ _)) (show(!decide (ad.e=(b.1.getD j noEdge)))=false from by rw[g3];simp)) ?_
  refine Gn 4 rfl (Gag rfl (.idxS (j) underlying32 sz81 rfl rfl (u.vec.isSome edgeV_row (by omega)) (rfl) (by omega)) (Gag rfl (.vfield fa81_0 (u.vec.isSome edgeV_row (by omega)) rfl) (Gdg rfl (.vcell (j:=j) (o:=0) (v:= .int .i64 ((b.1.getD j noEdge).f)) na3 rfl ap.vec edgeV_row (getS b.1 noEdge (by first|omega|(simp only[List.length_cons,List.length_nil];omega))) rfl) ?_)))
  refine Gn 1 rfl (Gdg rfl (.len underlying39 rfl) (Gag rfl (.dec (.geq rfl rfl) (dF (by omega))) (Gn 5 rfl (Gag rfl (.idxS (j) underlying32 sz81 rfl rfl (u.vec.isSome edgeV_row (by omega)) (rfl) (by omega)) (Gag rfl (.vfield fa81_0 (u.vec.isSome edgeV_row (by omega)) rfl) ?_)))))
  refine Gdg rfl (.vcell (j:=j) (o:=0) (v:= .int .i64 ((b.1.getD j noEdge).f)) na3 rfl ap.vec edgeV_row (getS b.1 noEdge (by first|omega|(simp only[List.length_cons,List.length_nil];omega))) rfl) ?_
  refine Gag rfl (.idxS ((b.1.getD j noEdge).f.toNat) underlying39 sz43 rfl rfl (Q.vec.isSome pv1_row (by omega)) (by omega) (by omega)) ?_
  have ba:=(((ab.le (Y.trans P)).cb ae (ab.rn (by omega))).le y)
  refine Gdg rfl (.vone (v:= .int .u64 ((((kl.getD ((b.1.getD j noEdge).f.toNat) 0):Nat):Int))) na43 rfl ba.vec pv1_row (getS kl 0 (by omega)) rfl) (Gdg rfl (.loadAll ag140 (by rfl) rfl aH) ?_)
  refine G.efg rfl rfl rfl rfl rfl (rfl) rfl rfl (Ef.call go70 rfl rfl (averify_ok (kl.getD ((b.1.getD j noEdge).f.toNat) 0) ad (hkb _ (getD_mem' (by omega))) (ver_r g6) aE) ?_)
  rintro _ ce ⟨rfl,Z⟩
  refine⟨_,rfl,?_⟩
  refine⟨fun _=>Z,?_⟩
  refine Gag rfl (.dec (.not rfl) (congrArg not g6)) (Gn 1 rfl (G.nil (E.thenN (WC.condF rfl (WC.skip (E.blkN (E.thenN (WC.region (Wn 1 rfl (Wa (.add rfl rfl (by omega)) rfl (Wn 1 rfl (W.nil ?_))))))))))))
  have bT:=(((a9.le P).ch ae (fun q hqq hF=>by cases hqq;have:=az.lt hF;have:=N.size;have:=a8;omega)).le (y.trans Z))
  refine E.again (j+1) (.of rfl) ?_ ?_
  ·exact⟨by omega,(((((aA.trans Y).trans P).tb ae aA a8).trans y).trans Z),by have:=a2;have:=N.size;have:=Y.size;have:=P.size;have:=ae.size;have:=y.size;have:=Z.size;omega,(ba.le Z),bT,(ap.le Z)⟩
  first|omega|(simp only[];omega)
 refine Cn rfl (dF c5) (WC.exit (E.thenX (E.thenX (E.blkH (E.thenN (Sr (Wn 5 rfl (Wg (.len underlying32 rfl) rfl (Wn 1 rfl (Wg (Any.rd (.beql underlying4 rfl rfl) _) rfl (Wn 2 rfl (Nx (Rt ?_)))))))))))))
 refine E.retG1 rfl rfl ?_
 exact⟨rB (beq_iff_eq.2 (decide_eq_decide.2 (by have:=hws.1;omega))),a1⟩
end Go.Proofs.YtocheaahlpiajaaGreatDoor

namespace Go.Proofs.YtocheaahlpiajaaGreatDoor
open Go Go.Sx Go.Osp Go.Gsp Go.ChangeShapes Go.WideShapes Go.Deep
set_option maxRecDepth 20000
variable {H:Type}{enc:TypeId×Value->H}{w:World}{base:Nat}{spare:Nat->Bool}{held:Bool}
open Go.Rtp
instance : Inhabited Kn := ⟨noKn⟩
end Go.Proofs.YtocheaahlpiajaaGreatDoor

