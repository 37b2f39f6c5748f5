/- SplitTells: for every input the law answers true and leaves its arguments as they were. -/
import Derived.Test.YtkaedikifgpkeaaGreatDoorSplitTellsR
import Derived.ProofKit
import Derived.OpenShut
import Derived.ShutString
import Derived.ChangeOld
import Derived.Below
import Derived.Deep.Slices
set_option linter.unusedVariables false
set_option linter.unusedSimpArgs false
namespace Go.Sx
open Go Go.ChangeShapes Go.WideShapes Go.Deep
variable {H:Type}{enc:TypeId×Value->H}{P:Program}{w:World}{base:Nat}{spare:Nat->Bool}{held:Bool}

theorem zq {α:Type}{k:Nat}{f:α->List Value}:∀(qs:List α),(∀q∈qs,(f q).length=k)->∀(j:Nat) (u:Value),((qs.map f).flatten)[j]? =some u->0<k/\∃q,qs[j/k]? =some q/\(f q)[j%k]? =some u
  |[],_,j,u,h=>by simp at h
  |q::qs,hk,j,u,h=>by
    have hq:=hk q (by simp)
    simp only[List.map_cons,List.flatten_cons]at h
    by_cases hj:j<k
    · rw[List.getElem?_append_left (by omega)]at h
      exact⟨by omega,q,by simp[Nat.div_eq_of_lt hj],by rw[Nat.mod_eq_of_lt hj];exact h⟩
    · rw[List.getElem?_append_right (by omega),hq]at h
      obtain⟨hp,r,b,c⟩:=zq qs (fun q hq=>hk q (by simp[hq])) (j-k) u h
      have hd:j/k=(j-k)/k+1:=by rw[Nat.div_eq_sub_div hp (by omega)]
      have hm:j%k=(j-k)%k:=Nat.mod_eq_sub_mod (by omega)
      exact⟨hp,r,by rw[hd];simpa using b,by rw[hm];exact c⟩
theorem uC {α:Type}{k:Nat}{f:α->List Value}:∀(qs:List α),(∀q∈qs,(f q).length=k)->((qs.map f).flatten).length=qs.length*k
  |[],_=>by simp
  |q::qs,hk=>by
    have:=uC qs (fun q hq=>hk q (by simp[hq]))
    simp only[List.map_cons,List.flatten_cons,List.length_append,List.length_cons,this,hk q (by simp)]
    rw[Nat.add_mul,Nat.one_mul,Nat.add_comm]

theorem E8 {α:Type}[Inhabited α]{f:α->List Value}{good:α->Prop}{t e:TypeId}{k:Nat}{r:Reach}{b0:Nat}{v:Value}{d:DataW H}{ps:List MemPlace}
    (ht:P.underlying t=some (.slice e))(hc:P.cellsOf e=k)(hp:∀fuel cs x,DataW.trod enc P w base spare held fuel e cs=some x->∃q,cs=f q/\good q)
    (hval:Value.okWide P w r b0 t v)(hd:DataW.Trod enc P w base spare held t v d ps):
    ∃(A:Option Addr) (n c:Nat) (qs:List α),v= .slice A n c/\qs.length=n/\(∀q∈qs,good q/\(f q).length=k)/\Sl w k A n (qs.map f).flatten/\n<=c/\c<=maxLen:=by
  obtain⟨A,n,c,rfl⟩:=okWide_slice ht hval
  obtain⟨fuel,hf⟩:=hd
  rcases open_slice ht hf with⟨hcs,_⟩|⟨a,len,cap,m,n',D,Pl,hcs,hb,hl,hm,hmm,hx,hi⟩
  · simp[Value.cells]at hcs
    obtain⟨rfl,rfl,rfl⟩:=hcs
    exact⟨none,0,0,[],rfl,rfl,fun q hq=>by simp at hq,⟨by simp,fun j u h=>by simp at h⟩,Nat.le_refl _,Nat.zero_le _⟩
  · simp[Value.cells]at hcs
    obtain⟨rfl,rfl,rfl⟩:=hcs
    have hlm:n<=m:=by rw[hmm];split<;>omega
    obtain⟨Q,hQ⟩:=choose_lt (α:=α) (p:=fun i q=>w.cells? base (a.add (i*k)) k=some (f q)/\good q) (n:=m) (fun i hi'=>by
      obtain⟨cs',b,l⟩:=hi i hi'
      obtain⟨q,rfl,hg⟩:=hp _ _ _ l
      rw[hc]at b
      exact⟨q,b,hg⟩)
    have hall:∀q∈(List.range n).map Q,good q/\(f q).length=k:=by
      intro q hq
      obtain⟨i,hi',rfl⟩:=List.mem_map.1 hq
      have hin:i<n:=List.mem_range.1 hi'
      obtain⟨b,l⟩:=hQ i (by omega)
      exact⟨l,(World.cells?_some b).2.1⟩
    refine⟨some a,n,c,(List.range n).map Q,rfl,by simp,hall,⟨?_,?_⟩,hl,hm⟩
    · rw[uC _ (fun q hq=>(hall q hq).2)];simp
    · intro j u hu
      obtain⟨o,q,b,l⟩:=zq (k:=k) _ (fun q hq=>(hall q hq).2) j u hu
      have hjn:j/k<n:=by
        have:=(List.getElem?_eq_some_iff.1 b).1
        simpa using this
      rw[List.getElem?_map,List.getElem?_range hjn]at b
      simp at b
      subst b
      obtain⟨s,_⟩:=hQ (j/k) (by omega)
      obtain⟨_,hlen,hcell⟩:=World.cells?_some s
      refine⟨a,rfl,?_⟩
      have:=hcell (j%k) (Nat.mod_lt _ o)
      rw[l,add_add,show j/k*k+j%k=j by rw[Nat.mul_comm];exact Nat.div_add_mod j k]at this
      exact this

theorem ZP {n:Int}(h:(Lit.int .u8 n).wf=true):Value.int .u8 n=jM (BitVec.ofInt 8 n):=by
  have:=bounds_u8 h
  unfold jM
  rw[BitVec.toNat_ofInt]
  congr 1
  omega
theorem UW {e:TypeId}(he:P.underlying e=some (.int .u8)):∀fuel cs x,DataW.trod enc P w base spare held fuel e cs=some x->∃q:BitVec 8,cs=[jM q]/\True:=by
  intro fuel cs x h
  obtain⟨n,rfl,_,hw⟩:=DataW.trod_int he h
  exact⟨_,by rw[ZP hw],trivial⟩
theorem La {t e:TypeId}{k:Nat}(ht:P.underlying t=some (.array k e))(he:P.underlying e=some (.int .u8))(hc:P.cellsOf e=1)(hct:P.cellsOf t=k):
    ∀fuel cs x,DataW.trod enc P w base spare held fuel t cs=some x->∃q:List (BitVec 8),cs=q.map jM/\q.length=k:=by
  intro fuel cs x h
  obtain⟨xs,m,rfl,_,hl,hxl,hi⟩:=DataW.trod_array ht h
  rw[hct]at hl
  obtain⟨Q,hQ⟩:=choose_lt (α:=BitVec 8) (p:=fun i q=>cs[i]? =some (jM q)) (n:=k) (fun i hi'=>by
    have:=hi i hi'
    rw[List.getElem?_eq_getElem (by omega)]at this
    obtain⟨q,hq,_⟩:=UW he _ _ _ this
    rw[hc,Nat.mul_one]at hq
    refine⟨q,?_⟩
    have b:((cs.drop i).take 1)[0]? =cs[i]? :=by simp[List.getElem?_drop]
    rw[<-b,hq];rfl)
  refine⟨(List.range k).map Q,?_,by simp⟩
  apply List.ext_getElem?
  intro i
  by_cases hik:i<k
  · rw[hQ i hik];simp[hik]
  · rw[List.getElem?_eq_none (by omega),List.getElem?_eq_none (by simp;omega)]
theorem Gv {t e:TypeId}{k:Nat}{r:Reach}{b0:Nat}{v:Value}(ht:P.underlying t=some (.array k e))(h:Value.okWide P w r b0 t v):∃cs:Array Value,v= .agg cs:=by
  simp only[Value.okWide,ht]at h
  obtain⟨cs,b,_⟩:=h
  exact⟨cs,b⟩
theorem Lb {t e:TypeId}{k:Nat}{r:Reach}{b0:Nat}{v:Value}{d:DataW H}{ps:List MemPlace}(ht:P.underlying t=some (.array k e))(he:P.underlying e=some (.int .u8))(hc:P.cellsOf e=1)(hct:P.cellsOf t=k)
    (hval:Value.okWide P w r b0 t v)(hd:DataW.Trod enc P w base spare held t v d ps):∃key:List (BitVec 8),v= .agg (key.map jM).toArray/\key.length=k:=by
  obtain⟨cs,rfl⟩:=Gv ht hval
  obtain⟨fuel,hf⟩:=hd
  obtain⟨q,hq,hl⟩:=La ht he hc hct _ _ _ hf
  refine⟨q,?_,hl⟩
  simp only[Value.cells]at hq
  rw[<-hq]
end Go.Sx

namespace Go.Sx
open Go Go.ChangeShapes Go.WideShapes Go.Deep
variable {H:Type}{enc:TypeId×Value->H}{P:Program}{w:World}{base:Nat}{spare:Nat->Bool}{held:Bool}
theorem RU {t:TypeId}{r:Reach}{b0:Nat}{v:Value}{d:DataW H}{ps:List MemPlace}(ht:P.underlying t=some (.int .u64))(hval:Value.okWide P w r b0 t v)(hd:DataW.Trod enc P w base spare held t v d ps):∃q:Nat,v= .int .u64 ((q:Nat):Int)/\q<18446744073709551616:=by
  obtain⟨a,rfl,rfl,rfl,s⟩:=open_int ht hval hd
  have:=bounds_u64 s
  exact⟨a.toNat,by rw[show((a.toNat:Nat):Int)=a by omega],by omega⟩
end Go.Sx

namespace Go.Proofs.YtkaedikifgpkeaaGreatDoor
open Tryz
open Go Go.Sx Go.wM Go.fO Go.ChangeShapes Go.WideShapes Go.Deep
set_option maxRecDepth 20000
variable {H:Type}{enc:TypeId×Value->H}{w:World}{base:Nat}{spare:Nat->Bool}{held:Bool}
theorem M5 {α:Type}{cs:List α}{i:Nat}{v:α}(h:(cs.drop i).take 1=[v]):cs[i]? =some v:=by
  have b:((cs.drop i).take 1)[0]? =cs[i]? :=by simp[List.getElem?_drop]
  rw[<-b,h];rfl
instance : Inhabited fO.Edge := ⟨eO⟩
def ZQ (n:Int):Prop:= -9223372036854775808<=n/\n<=9223372036854775807
theorem RV:∀fuel cs x,DataW.trod enc prog w base spare held fuel 64 cs=some x->∃q:GQ,cs=nI q/\Nb q:=by
  intro fuel cs x h
  obtain⟨xs,m,_,_,hl,hxl,hi⟩:=DataW.trod_struct underlying64 h
  rw[show prog.cellsOf 64=5 by kernel_rfl]at hl
  have hx:∀i,i<5->∃y,xs[i]? =some y:=fun i b=>⟨_,List.getElem?_eq_getElem (by rw[hxl];exact b)⟩
  have c:prog.cellsOf 3=1:=by kernel_rfl
  have gi:∀(i:Nat) (f:Field),i<5->DataW.trod enc prog w base spare held m f.type ((cs.drop f.offset).take (prog.cellsOf f.type))=xs[i]? ->f.offset=i->f.type=3->∃n:Int,cs[i]? =some (.int .i64 n)/\ZQ n:=by
    intro i f b hf ho ht
    obtain⟨y,hy⟩:=hx i b
    rw[ho,ht,c,hy]at hf
    obtain⟨n,hn,_,hw⟩:=DataW.trod_int underlying3 hf
    exact⟨n,M5 hn,bounds_i64 hw⟩
  obtain⟨d,e,j⟩:=gi 0 _ (by decide) (hi 0 _ rfl) rfl rfl
  obtain⟨k,l,o⟩:=gi 1 _ (by decide) (hi 1 _ rfl) rfl rfl
  obtain⟨s,t,u⟩:=gi 2 _ (by decide) (hi 2 _ rfl) rfl rfl
  obtain⟨v,z,A⟩:=gi 3 _ (by decide) (hi 3 _ rfl) rfl rfl
  obtain⟨C,D,F⟩:=gi 4 _ (by decide) (hi 4 _ rfl) rfl rfl
  refine⟨⟨d,k,s,v,C⟩,?_,j,o,u,A,F⟩
  apply List.ext_getElem?
  intro i
  by_cases b:i<5
  · have:i=0\/i=1\/i=2\/i=3\/i=4:=by omega
    rcases this with rfl|rfl|rfl|rfl|rfl
    · rw[e];rfl
    · rw[l];rfl
    · rw[t];rfl
    · rw[z];rfl
    · rw[D];rfl
  · rw[List.getElem?_eq_none (by omega),List.getElem?_eq_none (by rw[Iu.len];omega)]
theorem OE:∀fuel cs x,DataW.trod enc prog w base spare held fuel 66 cs=some x->∃q:fO.Edge,cs=fD q/\O0 q:=by
  intro fuel cs x h
  obtain⟨xs,m,_,_,hl,hxl,hi⟩:=DataW.trod_struct underlying66 h
  rw[show prog.cellsOf 66=9 by kernel_rfl]at hl
  have hx:∀i,i<5->∃y,xs[i]? =some y:=fun i b=>⟨_,List.getElem?_eq_getElem (by rw[hxl];exact b)⟩
  have s:prog.cellsOf 3=1:=by kernel_rfl
  have t:prog.cellsOf 64=5:=by kernel_rfl
  have gi:∀(i:Nat) (f:Field),i<5->DataW.trod enc prog w base spare held m f.type ((cs.drop f.offset).take (prog.cellsOf f.type))=xs[i]? ->f.offset=i->f.type=3->∃n:Int,cs[i]? =some (.int .i64 n)/\ZQ n:=by
    intro i f b hf ho ht
    obtain⟨y,hy⟩:=hx i b
    rw[ho,ht,s,hy]at hf
    obtain⟨n,hn,_,hw⟩:=DataW.trod_int underlying3 hf
    exact⟨n,M5 hn,bounds_i64 hw⟩
  obtain⟨d,u,v⟩:=gi 0 _ (by decide) (hi 0 _ rfl) rfl rfl
  obtain⟨j,z,A⟩:=gi 1 _ (by decide) (hi 1 _ rfl) rfl rfl
  obtain⟨k,C,D⟩:=gi 2 _ (by decide) (hi 2 _ rfl) rfl rfl
  obtain⟨l,F,H⟩:=gi 3 _ (by decide) (hi 3 _ rfl) rfl rfl
  obtain⟨p,hp,bp⟩:∃q:GQ,(cs.drop 4).take 5=nI q/\Nb q:=by
    obtain⟨y,hy⟩:=hx 4 (by decide)
    have c:=hi 4 _ rfl
    rw[hy]at c
    have o:DataW.trod enc prog w base spare held m 64 ((cs.drop 4).take (prog.cellsOf 64))=some y:=c
    rw[t]at o
    exact RV _ _ _ o
  refine⟨⟨d,j,k,l,p⟩,?_,v,A,D,H,bp⟩
  apply List.ext_getElem?
  intro i
  by_cases c:i<4
  · have:i=0\/i=1\/i=2\/i=3:=by omega
    rcases this with rfl|rfl|rfl|rfl
    · rw[u];rfl
    · rw[z];rfl
    · rw[C];rfl
    · rw[F];rfl
  · by_cases I:i<9
    · have h:=FC hp (i-4)
      have e:(fD ⟨d,j,k,l,p⟩)[i]? =(nI p)[i-4]? :=by
        have:i=4\/i=5\/i=6\/i=7\/i=8:=by omega
        rcases this with rfl|rfl|rfl|rfl|rfl<;>rfl
      rw[e]
      have hlt:i-4<(nI p).length:=by rw[Iu.len];omega
      rw[List.getElem?_eq_getElem hlt]
      have:=h _ (List.getElem?_eq_getElem hlt)
      rwa [show 4+(i-4)=i by omega]at this
    · rw[List.getElem?_eq_none (by omega),List.getElem?_eq_none (by rw[eQ.len];omega)]
theorem Lc {r:Reach}{b0:Nat}{v:Value}{d:DataW H}{ps:List MemPlace}(hval:Value.okWide prog w r b0 22 v)(hd:DataW.Trod enc prog w base spare held 22 v d ps):
    ∃A n c,∃xs:List fO.Edge,v= .slice A n c/\(Vec w fD 9 A n xs/\∀h∈xs,O0 h)/\n<=c/\c<=9223372036854775807:=by
  obtain⟨A,n,c,qs,rfl,b,e,i,j,k⟩:=E8 (α:=fO.Edge) (f:=fD) (good:=O0) underlying22 (show prog.cellsOf 66=9 by kernel_rfl) OE hval hd
  exact⟨A,n,c,qs,rfl,⟨⟨b,i⟩,fun q hq=>(e q hq).1⟩,j,by unfold maxLen at k;omega⟩
end Go.Proofs.YtkaedikifgpkeaaGreatDoor

namespace Go.Sx
open Go Go.ChangeShapes Go.WideShapes Go.Deep
variable {H:Type}{enc:TypeId×Value->H}{P:Program}{w:World}{base:Nat}{spare:Nat->Bool}{held:Bool}
def UX (n:Int):Prop:= -9223372036854775808<=n/\n<=9223372036854775807
theorem Pn {α:Type}(cs:List α)(o s:Nat):cs.drop o=(cs.drop o).take s++cs.drop (o+s):=by
  rw[<-List.drop_drop]
  exact(List.take_append_drop s (cs.drop o)).symm
theorem abB {α:Type}(cs:List α):cs=cs.drop 0:=rfl
theorem abC {α:Type}{cs:List α}{n:Nat}(h:cs.length=n):cs.drop n=[]:=List.drop_eq_nil_of_le (by omega)
theorem JK {t:TypeId}{fs:Array Field}{fuel:Nat}{cs:List Value}{x:DataW H×List MemPlace}(ht:P.underlying t=some (.struct fs))(h:DataW.trod enc P w base spare held fuel t cs=some x):
    cs.length=P.cellsOf t/\∃m,∀(i:Nat) (f:Field),fs[i]? =some f->∃y,DataW.trod enc P w base spare held m f.type ((cs.drop f.offset).take (P.cellsOf f.type))=some y:=by
  obtain⟨xs,m,_,_,hl,hxl,hi⟩:=DataW.trod_struct ht h
  refine⟨hl,m,fun i f hf=>?_⟩
  have hlt:i<xs.length:=by rw[hxl];exact(Array.getElem?_eq_some_iff.1 hf).1
  exact⟨_,(hi i f hf).trans (List.getElem?_eq_getElem hlt)⟩
theorem Dn {e:TypeId}(he:P.underlying e=some (.int .i64)):∀fuel cs x,DataW.trod enc P w base spare held fuel e cs=some x->∃q:Int,cs=[.int .i64 q]/\UX q:=by
  intro fuel cs x h
  obtain⟨n,rfl,_,hw⟩:=DataW.trod_int he h
  exact⟨n,rfl,bounds_i64 hw⟩
theorem RX {α:Type}[Inhabited α]{f:α->List Value}{good:α->Prop}{t e:TypeId}{k:Nat}{r:Reach}{b0:Nat}{v:Value}{d:DataW H}{ps:List MemPlace}(ht:P.underlying t=some (.slice e))(hc:P.cellsOf e=k)(hp:∀fuel cs x,DataW.trod enc P w base spare held fuel e cs=some x->∃q,cs=f q/\good q)
    (hval:Value.okWide P w r b0 t v)(hd:DataW.Trod enc P w base spare held t v d ps):∃A n c,∃xs:List α,v= .slice A n c/\(Vec w f k A n xs/\∀h∈xs,good h)/\n<=c/\c<=9223372036854775807:=by
  obtain⟨A,n,c,qs,rfl,b,i,j,l,m⟩:=E8 (α:=α) (f:=f) (good:=good) ht hc hp hval hd
  exact⟨A,n,c,qs,rfl,⟨⟨b,j⟩,fun q hq=>(i q hq).1⟩,l,by unfold maxLen at m;omega⟩
end Go.Sx

namespace Go.Proofs.YtkaedikifgpkeaaGreatDoor
open Tryz
open Go Go.Sx Go.wM Go.fO Go.ChangeShapes Go.WideShapes Go.Deep
set_option maxRecDepth 20000
variable {H:Type}{enc:TypeId×Value->H}{w:World}{base:Nat}{spare:Nat->Bool}{held:Bool}
open Go.tH
def RY (q:Kn):Prop:=UX q.p/\UX q.d/\UX q.a
instance : Inhabited Kn := ⟨jI⟩
theorem UY:∀fuel cs x,DataW.trod enc prog w base spare held fuel 74 cs=some x->∃q:Kn,cs=Xo q/\RY q:=by
  intro fuel cs x h
  obtain⟨hl,m,hi⟩:=JK underlying74 h
  rw[show prog.cellsOf 74=3 by kernel_rfl]at hl
  obtain⟨c,b⟩:=hi 0 _ rfl
  have b:DataW.trod enc prog w base spare held m 3 ((cs.drop 0).take (prog.cellsOf 3))=some c:=b
  rw[show prog.cellsOf 3=1 by kernel_rfl]at b
  obtain⟨d,f,i⟩:=Dn underlying3 _ _ _ b
  obtain⟨j,k1⟩:=hi 1 _ rfl
  have k1:DataW.trod enc prog w base spare held m 3 ((cs.drop 1).take (prog.cellsOf 3))=some j:=k1
  rw[show prog.cellsOf 3=1 by kernel_rfl]at k1
  obtain⟨k,l,n⟩:=Dn underlying3 _ _ _ k1
  obtain⟨o,k2⟩:=hi 2 _ rfl
  have k2:DataW.trod enc prog w base spare held m 3 ((cs.drop 2).take (prog.cellsOf 3))=some o:=k2
  rw[show prog.cellsOf 3=1 by kernel_rfl]at k2
  obtain⟨s,t,u⟩:=Dn underlying3 _ _ _ k2
  have e:=(abB cs).trans ((Pn cs 0 1).trans (congrArg (List.take 1 (cs.drop 0)++ ·) ((Pn cs 1 1).trans (congrArg (List.take 1 (cs.drop 1)++ ·) ((Pn cs 2 1).trans (congrArg (List.take 1 (cs.drop 2)++ ·) (abC hl)))))))
  simp only[f,l,t]at e
  exact⟨⟨d,k,s⟩,e,i,n,u⟩
theorem JL {r:Reach}{b0:Nat}{v:Value}{d:DataW H}{ps:List MemPlace}(hval:Value.okWide prog w r b0 23 v)(hd:DataW.Trod enc prog w base spare held 23 v d ps):∃A n c,∃xs:List Kn,v= .slice A n c/\(Vec w Xo 3 A n xs/\∀h∈xs,RY h)/\n<=c/\c<=9223372036854775807:=RX underlying23 (show prog.cellsOf 74=3 by kernel_rfl) UY hval hd
end Go.Proofs.YtkaedikifgpkeaaGreatDoor

