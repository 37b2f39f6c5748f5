/- SplitHeld: for every input the law answers true and leaves its arguments as they were. -/
import Derived.Test.YtocheaahlpiajaaGreatDoorSplitHeldR
import Derived.ProofKit
import Derived.OpenShut
import Derived.ShutString
import Derived.ChangeOld
import Derived.Below
import Derived.Deep.Slices
set_option linter.unusedVariables false
set_option linter.unusedSimpArgs false
namespace Go.Sx
open Go Go.ChangeShapes Go.WideShapes Go.Deep
variable {H:Type}{enc:TypeId×Value->H}{P:Program}{w:World}{base:Nat}{spare:Nat->Bool}{held:Bool}

theorem flatten_get {α:Type}{k:Nat}{f:α->List Value}:∀(qs:List α),(∀q∈qs,(f q).length=k)->∀(j:Nat) (u:Value),((qs.map f).flatten)[j]? =some u->0<k/\∃q,qs[j/k]? =some q/\(f q)[j%k]? =some u
  |[],_,j,u,h=>by simp at h
  |q::qs,hk,j,u,h=>by
    have hq:=hk q (by simp)
    simp only[List.map_cons,List.flatten_cons]at h
    by_cases hj:j<k
    · rw[List.getElem?_append_left (by omega)]at h
      exact⟨by omega,q,by simp[Nat.div_eq_of_lt hj],by rw[Nat.mod_eq_of_lt hj];exact h⟩
    · rw[List.getElem?_append_right (by omega),hq]at h
      obtain⟨hp,r,b,c⟩:=flatten_get qs (fun q hq=>hk q (by simp[hq])) (j-k) u h
      have hd:j/k=(j-k)/k+1:=by rw[Nat.div_eq_sub_div hp (by omega)]
      have hm:j%k=(j-k)%k:=Nat.mod_eq_sub_mod (by omega)
      exact⟨hp,r,by rw[hd];simpa using b,by rw[hm];exact c⟩
theorem flatten_length {α:Type}{k:Nat}{f:α->List Value}:∀(qs:List α),(∀q∈qs,(f q).length=k)->((qs.map f).flatten).length=qs.length*k
  |[],_=>by simp
  |q::qs,hk=>by
    have:=flatten_length qs (fun q hq=>hk q (by simp[hq]))
    simp only[List.map_cons,List.flatten_cons,List.length_append,List.length_cons,this,hk q (by simp)]
    rw[Nat.add_mul,Nat.one_mul,Nat.add_comm]

theorem open_rows {α:Type}[Inhabited α]{f:α->List Value}{good:α->Prop}{t e:TypeId}{k:Nat}{r:Reach}{b0:Nat}{v:Value}{d:DataW H}{ps:List MemPlace}
    (ht:P.underlying t=some (.slice e))(hc:P.cellsOf e=k)(hp:∀fuel cs x,DataW.trod enc P w base spare held fuel e cs=some x->∃q,cs=f q/\good q)
    (hval:Value.okWide P w r b0 t v)(hd:DataW.Trod enc P w base spare held t v d ps):
    ∃(A:Option Addr) (n c:Nat) (qs:List α),v= .slice A n c/\qs.length=n/\(∀q∈qs,good q/\(f q).length=k)/\Sl w k A n (qs.map f).flatten/\n<=c/\c<=maxLen:=by
  obtain⟨A,n,c,rfl⟩:=okWide_slice ht hval
  obtain⟨fuel,hf⟩:=hd
  rcases open_slice ht hf with⟨hcs,_⟩|⟨a,len,cap,m,n',D,Pl,hcs,hb,hl,hm,hmm,hx,hi⟩
  · simp[Value.cells]at hcs
    obtain⟨rfl,rfl,rfl⟩:=hcs
    exact⟨none,0,0,[],rfl,rfl,fun q hq=>by simp at hq,⟨by simp,fun j u h=>by simp at h⟩,Nat.le_refl _,Nat.zero_le _⟩
  · simp[Value.cells]at hcs
    obtain⟨rfl,rfl,rfl⟩:=hcs
    have hlm:n<=m:=by rw[hmm];split<;>omega
    obtain⟨Q,hQ⟩:=choose_lt (α:=α) (p:=fun i q=>w.cells? base (a.add (i*k)) k=some (f q)/\good q) (n:=m) (fun i hi'=>by
      obtain⟨cs',b,l⟩:=hi i hi'
      obtain⟨q,rfl,hg⟩:=hp _ _ _ l
      rw[hc]at b
      exact⟨q,b,hg⟩)
    have hall:∀q∈(List.range n).map Q,good q/\(f q).length=k:=by
      intro q hq
      obtain⟨i,hi',rfl⟩:=List.mem_map.1 hq
      have hin:i<n:=List.mem_range.1 hi'
      obtain⟨b,l⟩:=hQ i (by omega)
      exact⟨l,(World.cells?_some b).2.1⟩
    refine⟨some a,n,c,(List.range n).map Q,rfl,by simp,hall,⟨?_,?_⟩,hl,hm⟩
    · rw[flatten_length _ (fun q hq=>(hall q hq).2)];simp
    · intro j u hu
      obtain⟨o,q,b,l⟩:=flatten_get (k:=k) _ (fun q hq=>(hall q hq).2) j u hu
      have hjn:j/k<n:=by
        have:=(List.getElem?_eq_some_iff.1 b).1
        simpa using this
      rw[List.getElem?_map,List.getElem?_range hjn]at b
      simp at b
      subst b
      obtain⟨s,_⟩:=hQ (j/k) (by omega)
      obtain⟨_,hlen,hcell⟩:=World.cells?_some s
      refine⟨a,rfl,?_⟩
      have:=hcell (j%k) (Nat.mod_lt _ o)
      rw[l,add_add,show j/k*k+j%k=j by rw[Nat.mul_comm];exact Nat.div_add_mod j k]at this
      exact this

theorem u8_of {n:Int}(h:(Lit.int .u8 n).wf=true):Value.int .u8 n=u8v (BitVec.ofInt 8 n):=by
  have:=bounds_u8 h
  unfold u8v
  rw[BitVec.toNat_ofInt]
  congr 1
  omega
theorem read_u8 {e:TypeId}(he:P.underlying e=some (.int .u8)):∀fuel cs x,DataW.trod enc P w base spare held fuel e cs=some x->∃q:BitVec 8,cs=[u8v q]/\True:=by
  intro fuel cs x h
  obtain⟨n,rfl,_,hw⟩:=DataW.trod_int he h
  exact⟨_,by rw[u8_of hw],trivial⟩
theorem read_bytes {t e:TypeId}{k:Nat}(ht:P.underlying t=some (.array k e))(he:P.underlying e=some (.int .u8))(hc:P.cellsOf e=1)(hct:P.cellsOf t=k):
    ∀fuel cs x,DataW.trod enc P w base spare held fuel t cs=some x->∃q:List (BitVec 8),cs=q.map u8v/\q.length=k:=by
  intro fuel cs x h
  obtain⟨xs,m,rfl,_,hl,hxl,hi⟩:=DataW.trod_array ht h
  rw[hct]at hl
  obtain⟨Q,hQ⟩:=choose_lt (α:=BitVec 8) (p:=fun i q=>cs[i]? =some (u8v q)) (n:=k) (fun i hi'=>by
    have:=hi i hi'
    rw[List.getElem?_eq_getElem (by omega)]at this
    obtain⟨q,hq,_⟩:=read_u8 he _ _ _ this
    rw[hc,Nat.mul_one]at hq
    refine⟨q,?_⟩
    have b:((cs.drop i).take 1)[0]? =cs[i]? :=by simp[List.getElem?_drop]
    rw[<-b,hq];rfl)
  refine⟨(List.range k).map Q,?_,by simp⟩
  apply List.ext_getElem?
  intro i
  by_cases hik:i<k
  · rw[hQ i hik];simp[hik]
  · rw[List.getElem?_eq_none (by omega),List.getElem?_eq_none (by simp;omega)]
theorem okWide_array {t e:TypeId}{k:Nat}{r:Reach}{b0:Nat}{v:Value}(ht:P.underlying t=some (.array k e))(h:Value.okWide P w r b0 t v):∃cs:Array Value,v= .agg cs:=by
  simp only[Value.okWide,ht]at h
  obtain⟨cs,b,_⟩:=h
  exact⟨cs,b⟩
theorem open_bytes {t e:TypeId}{k:Nat}{r:Reach}{b0:Nat}{v:Value}{d:DataW H}{ps:List MemPlace}(ht:P.underlying t=some (.array k e))(he:P.underlying e=some (.int .u8))(hc:P.cellsOf e=1)(hct:P.cellsOf t=k)
    (hval:Value.okWide P w r b0 t v)(hd:DataW.Trod enc P w base spare held t v d ps):∃key:List (BitVec 8),v= .agg (key.map u8v).toArray/\key.length=k:=by
  obtain⟨cs,rfl⟩:=okWide_array ht hval
  obtain⟨fuel,hf⟩:=hd
  obtain⟨q,hq,hl⟩:=read_bytes ht he hc hct _ _ _ hf
  refine⟨q,?_,hl⟩
  simp only[Value.cells]at hq
  rw[<-hq]
end Go.Sx

namespace Go.Sx
open Go Go.ChangeShapes Go.WideShapes Go.Deep
variable {H:Type}{enc:TypeId×Value->H}{P:Program}{w:World}{base:Nat}{spare:Nat->Bool}{held:Bool}
theorem open_u64 {t:TypeId}{r:Reach}{b0:Nat}{v:Value}{d:DataW H}{ps:List MemPlace}(ht:P.underlying t=some (.int .u64))(hval:Value.okWide P w r b0 t v)(hd:DataW.Trod enc P w base spare held t v d ps):∃q:Nat,v= .int .u64 ((q:Nat):Int)/\q<18446744073709551616:=by
  obtain⟨a,rfl,rfl,rfl,s⟩:=open_int ht hval hd
  have:=bounds_u64 s
  exact⟨a.toNat,by rw[show((a.toNat:Nat):Int)=a by omega],by omega⟩
end Go.Sx

namespace Go.Proofs.YtocheaahlpiajaaGreatDoor
open Tryz
open Go Go.Sx Go.Osp Go.Gsp Go.ChangeShapes Go.WideShapes Go.Deep
set_option maxRecDepth 20000
variable {H:Type}{enc:TypeId×Value->H}{w:World}{base:Nat}{spare:Nat->Bool}{held:Bool}
theorem one_at' {α:Type}{cs:List α}{i:Nat}{v:α}(h:(cs.drop i).take 1=[v]):cs[i]? =some v:=by
  have b:((cs.drop i).take 1)[0]? =cs[i]? :=by simp[List.getElem?_drop]
  rw[<-b,h];rfl
instance : Inhabited Gsp.Edge := ⟨noEdge⟩
def I64' (n:Int):Prop:= -9223372036854775808<=n/\n<=9223372036854775807
theorem read_pol:∀fuel cs x,DataW.trod enc prog w base spare held fuel 79 cs=some x->∃q:Pol,cs=polV q/\PolI q:=by
  intro fuel cs x h
  obtain⟨xs,m,_,_,hl,hxl,hi⟩:=DataW.trod_struct underlying79 h
  rw[show prog.cellsOf 79=5 by kernel_rfl]at hl
  have hx:∀i,i<5->∃y,xs[i]? =some y:=fun i b=>⟨_,List.getElem?_eq_getElem (by rw[hxl];exact b)⟩
  have c:prog.cellsOf 3=1:=by kernel_rfl
  have gi:∀(i:Nat) (f:Field),i<5->DataW.trod enc prog w base spare held m f.type ((cs.drop f.offset).take (prog.cellsOf f.type))=xs[i]? ->f.offset=i->f.type=3->∃n:Int,cs[i]? =some (.int .i64 n)/\I64' n:=by
    intro i f b hf ho ht
    obtain⟨y,hy⟩:=hx i b
    rw[ho,ht,c,hy]at hf
    obtain⟨n,hn,_,hw⟩:=DataW.trod_int underlying3 hf
    exact⟨n,one_at' hn,bounds_i64 hw⟩
  obtain⟨d,e,j⟩:=gi 0 _ (by decide) (hi 0 _ rfl) rfl rfl
  obtain⟨k,l,o⟩:=gi 1 _ (by decide) (hi 1 _ rfl) rfl rfl
  obtain⟨s,t,u⟩:=gi 2 _ (by decide) (hi 2 _ rfl) rfl rfl
  obtain⟨v,z,A⟩:=gi 3 _ (by decide) (hi 3 _ rfl) rfl rfl
  obtain⟨C,D,F⟩:=gi 4 _ (by decide) (hi 4 _ rfl) rfl rfl
  refine⟨⟨d,k,s,v,C⟩,?_,j,o,u,A,F⟩
  apply List.ext_getElem?
  intro i
  by_cases b:i<5
  · have:i=0\/i=1\/i=2\/i=3\/i=4:=by omega
    rcases this with rfl|rfl|rfl|rfl|rfl
    · rw[e];rfl
    · rw[l];rfl
    · rw[t];rfl
    · rw[z];rfl
    · rw[D];rfl
  · rw[List.getElem?_eq_none (by omega),List.getElem?_eq_none (by rw[polV_row.len];omega)]
theorem read_edge:∀fuel cs x,DataW.trod enc prog w base spare held fuel 81 cs=some x->∃q:Gsp.Edge,cs=edgeV q/\EdgeI q:=by
  intro fuel cs x h
  obtain⟨xs,m,_,_,hl,hxl,hi⟩:=DataW.trod_struct underlying81 h
  rw[show prog.cellsOf 81=9 by kernel_rfl]at hl
  have hx:∀i,i<5->∃y,xs[i]? =some y:=fun i b=>⟨_,List.getElem?_eq_getElem (by rw[hxl];exact b)⟩
  have s:prog.cellsOf 3=1:=by kernel_rfl
  have t:prog.cellsOf 79=5:=by kernel_rfl
  have gi:∀(i:Nat) (f:Field),i<5->DataW.trod enc prog w base spare held m f.type ((cs.drop f.offset).take (prog.cellsOf f.type))=xs[i]? ->f.offset=i->f.type=3->∃n:Int,cs[i]? =some (.int .i64 n)/\I64' n:=by
    intro i f b hf ho ht
    obtain⟨y,hy⟩:=hx i b
    rw[ho,ht,s,hy]at hf
    obtain⟨n,hn,_,hw⟩:=DataW.trod_int underlying3 hf
    exact⟨n,one_at' hn,bounds_i64 hw⟩
  obtain⟨d,u,v⟩:=gi 0 _ (by decide) (hi 0 _ rfl) rfl rfl
  obtain⟨j,z,A⟩:=gi 1 _ (by decide) (hi 1 _ rfl) rfl rfl
  obtain⟨k,C,D⟩:=gi 2 _ (by decide) (hi 2 _ rfl) rfl rfl
  obtain⟨l,F,H⟩:=gi 3 _ (by decide) (hi 3 _ rfl) rfl rfl
  obtain⟨p,hp,bp⟩:∃q:Pol,(cs.drop 4).take 5=polV q/\PolI q:=by
    obtain⟨y,hy⟩:=hx 4 (by decide)
    have c:=hi 4 _ rfl
    rw[hy]at c
    have o:DataW.trod enc prog w base spare held m 79 ((cs.drop 4).take (prog.cellsOf 79))=some y:=c
    rw[t]at o
    exact read_pol _ _ _ o
  refine⟨⟨d,j,k,l,p⟩,?_,v,A,D,H,bp⟩
  apply List.ext_getElem?
  intro i
  by_cases c:i<4
  · have:i=0\/i=1\/i=2\/i=3:=by omega
    rcases this with rfl|rfl|rfl|rfl
    · rw[u];rfl
    · rw[z];rfl
    · rw[C];rfl
    · rw[F];rfl
  · by_cases I:i<9
    · have h:=part_at hp (i-4)
      have e:(edgeV ⟨d,j,k,l,p⟩)[i]? =(polV p)[i-4]? :=by
        have:i=4\/i=5\/i=6\/i=7\/i=8:=by omega
        rcases this with rfl|rfl|rfl|rfl|rfl<;>rfl
      rw[e]
      have hlt:i-4<(polV p).length:=by rw[polV_row.len];omega
      rw[List.getElem?_eq_getElem hlt]
      have:=h _ (List.getElem?_eq_getElem hlt)
      rwa [show 4+(i-4)=i by omega]at this
    · rw[List.getElem?_eq_none (by omega),List.getElem?_eq_none (by rw[edgeV_row.len];omega)]
theorem open_edges {r:Reach}{b0:Nat}{v:Value}{d:DataW H}{ps:List MemPlace}(hval:Value.okWide prog w r b0 32 v)(hd:DataW.Trod enc prog w base spare held 32 v d ps):
    ∃A n c,∃xs:List Gsp.Edge,v= .slice A n c/\(Vec w edgeV 9 A n xs/\∀h∈xs,EdgeI h)/\n<=c/\c<=9223372036854775807:=by
  obtain⟨A,n,c,qs,rfl,b,e,i,j,k⟩:=open_rows (α:=Gsp.Edge) (f:=edgeV) (good:=EdgeI) underlying32 (show prog.cellsOf 81=9 by kernel_rfl) read_edge hval hd
  exact⟨A,n,c,qs,rfl,⟨⟨b,i⟩,fun q hq=>(e q hq).1⟩,j,by unfold maxLen at k;omega⟩
end Go.Proofs.YtocheaahlpiajaaGreatDoor

namespace Go.Sx
open Go Go.ChangeShapes Go.WideShapes Go.Deep
variable {H:Type}{enc:TypeId×Value->H}{P:Program}{w:World}{base:Nat}{spare:Nat->Bool}{held:Bool}
def I64b (n:Int):Prop:= -9223372036854775808<=n/\n<=9223372036854775807
theorem cut1 {α:Type}(cs:List α)(o s:Nat):cs.drop o=(cs.drop o).take s++cs.drop (o+s):=by
  rw[<-List.drop_drop]
  exact(List.take_append_drop s (cs.drop o)).symm
theorem cut0 {α:Type}(cs:List α):cs=cs.drop 0:=rfl
theorem cutN {α:Type}{cs:List α}{n:Nat}(h:cs.length=n):cs.drop n=[]:=List.drop_eq_nil_of_le (by omega)
theorem trod_fields {t:TypeId}{fs:Array Field}{fuel:Nat}{cs:List Value}{x:DataW H×List MemPlace}(ht:P.underlying t=some (.struct fs))(h:DataW.trod enc P w base spare held fuel t cs=some x):
    cs.length=P.cellsOf t/\∃m,∀(i:Nat) (f:Field),fs[i]? =some f->∃y,DataW.trod enc P w base spare held m f.type ((cs.drop f.offset).take (P.cellsOf f.type))=some y:=by
  obtain⟨xs,m,_,_,hl,hxl,hi⟩:=DataW.trod_struct ht h
  refine⟨hl,m,fun i f hf=>?_⟩
  have hlt:i<xs.length:=by rw[hxl];exact(Array.getElem?_eq_some_iff.1 hf).1
  exact⟨_,(hi i f hf).trans (List.getElem?_eq_getElem hlt)⟩
theorem read_i64 {e:TypeId}(he:P.underlying e=some (.int .i64)):∀fuel cs x,DataW.trod enc P w base spare held fuel e cs=some x->∃q:Int,cs=[.int .i64 q]/\I64b q:=by
  intro fuel cs x h
  obtain⟨n,rfl,_,hw⟩:=DataW.trod_int he h
  exact⟨n,rfl,bounds_i64 hw⟩
theorem open_vec {α:Type}[Inhabited α]{f:α->List Value}{good:α->Prop}{t e:TypeId}{k:Nat}{r:Reach}{b0:Nat}{v:Value}{d:DataW H}{ps:List MemPlace}(ht:P.underlying t=some (.slice e))(hc:P.cellsOf e=k)(hp:∀fuel cs x,DataW.trod enc P w base spare held fuel e cs=some x->∃q,cs=f q/\good q)
    (hval:Value.okWide P w r b0 t v)(hd:DataW.Trod enc P w base spare held t v d ps):∃A n c,∃xs:List α,v= .slice A n c/\(Vec w f k A n xs/\∀h∈xs,good h)/\n<=c/\c<=9223372036854775807:=by
  obtain⟨A,n,c,qs,rfl,b,i,j,l,m⟩:=open_rows (α:=α) (f:=f) (good:=good) ht hc hp hval hd
  exact⟨A,n,c,qs,rfl,⟨⟨b,j⟩,fun q hq=>(i q hq).1⟩,l,by unfold maxLen at m;omega⟩
end Go.Sx

namespace Go.Proofs.YtocheaahlpiajaaGreatDoor
open Tryz
open Go Go.Sx Go.Osp Go.Gsp Go.ChangeShapes Go.WideShapes Go.Deep
set_option maxRecDepth 20000
variable {H:Type}{enc:TypeId×Value->H}{w:World}{base:Nat}{spare:Nat->Bool}{held:Bool}
open Go.Rtp
theorem open_u8n {t:TypeId}{r:Reach}{b0:Nat}{v:Value}{d:DataW H}{ps:List MemPlace}(ht:prog.underlying t=some (.int .u8))(hval:Value.okWide prog w r b0 t v)(hd:DataW.Trod enc prog w base spare held t v d ps):∃x:Nat,v= .int .u8 ((x:Nat):Int)/\x<256:=by
  obtain⟨a,rfl,rfl,rfl,s⟩:=open_int ht hval hd
  have:=bounds_u8 s
  exact⟨a.toNat,by rw[show((a.toNat:Nat):Int)=a by omega],by omega⟩
def goodKn (q:Kn):Prop:=I64b q.p/\I64b q.d/\I64b q.a
instance : Inhabited Kn := ⟨noKn⟩
theorem read_Kn:∀fuel cs x,DataW.trod enc prog w base spare held fuel 161 cs=some x->∃q:Kn,cs=knV q/\goodKn q:=by
  intro fuel cs x h
  obtain⟨hl,m,hi⟩:=trod_fields underlying161 h
  rw[show prog.cellsOf 161=3 by kernel_rfl]at hl
  obtain⟨c,b⟩:=hi 0 _ rfl
  have b:DataW.trod enc prog w base spare held m 3 ((cs.drop 0).take (prog.cellsOf 3))=some c:=b
  rw[show prog.cellsOf 3=1 by kernel_rfl]at b
  obtain⟨d,f,i⟩:=read_i64 underlying3 _ _ _ b
  obtain⟨j,k1⟩:=hi 1 _ rfl
  have k1:DataW.trod enc prog w base spare held m 3 ((cs.drop 1).take (prog.cellsOf 3))=some j:=k1
  rw[show prog.cellsOf 3=1 by kernel_rfl]at k1
  obtain⟨k,l,n⟩:=read_i64 underlying3 _ _ _ k1
  obtain⟨o,k2⟩:=hi 2 _ rfl
  have k2:DataW.trod enc prog w base spare held m 3 ((cs.drop 2).take (prog.cellsOf 3))=some o:=k2
  rw[show prog.cellsOf 3=1 by kernel_rfl]at k2
  obtain⟨s,t,u⟩:=read_i64 underlying3 _ _ _ k2
  have e:=(cut0 cs).trans ((cut1 cs 0 1).trans (congrArg (List.take 1 (cs.drop 0)++ ·) ((cut1 cs 1 1).trans (congrArg (List.take 1 (cs.drop 1)++ ·) ((cut1 cs 2 1).trans (congrArg (List.take 1 (cs.drop 2)++ ·) (cutN hl)))))))
  simp only[f,l,t]at e
  exact⟨⟨d,k,s⟩,e,i,n,u⟩
theorem open_knowns {r:Reach}{b0:Nat}{v:Value}{d:DataW H}{ps:List MemPlace}(hval:Value.okWide prog w r b0 53 v)(hd:DataW.Trod enc prog w base spare held 53 v d ps):∃A n c,∃xs:List Kn,v= .slice A n c/\(Vec w knV 3 A n xs/\∀h∈xs,goodKn h)/\n<=c/\c<=9223372036854775807:=open_vec underlying53 (show prog.cellsOf 161=3 by kernel_rfl) read_Kn hval hd
end Go.Proofs.YtocheaahlpiajaaGreatDoor

