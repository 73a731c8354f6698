/- The functions that the law ShapeRoundsUpto reaches, told as plain functions, with what is proved of them, and the words they need (part 6). -/
import Derived.LaidMore
import Derived.LaidHandle
import Derived.LaidSub
import Derived.OpenShut
import Derived.ChangeSame
import Derived.Lay
import Derived.Lib.LaidTab
import Derived.Test.YtcmgdjnjmobkoaaGreatDoorRows
import Derived.Test.YtcmgdjnjmobkoaaGreatDoorCShapeRoundsUpto0
import Derived.Stop.LaidErr
import Derived.SizedLaws
import Derived.Lib.SmallJoins
import Derived.ChangeMaps5
import Derived.Test.YtcmgdjnjmobkoaaGreatDoorCShapeRoundsUpto5
set_option linter.unusedVariables false
set_option linter.unusedSimpArgs false
section
namespace Fig
open Go Go.ChangeShapes
theorem zoe {α:Type} {l:List α} {i n:Nat} (hl:l.length=n) (hi:i<n):∃ v,(l.drop i).take 1=[v]∧l[i]?=some v:=by
 refine⟨l[i],?_,List.getElem?_eq_getElem (by omega)⟩;rw[List.drop_eq_getElem_cons (by omega)];rfl
theorem zmm {P:Program} {W:World} {name:String} {d:DataW Unit} (h:funcsAt P W name d) {g:Nat} {t e:TypeId} {n:Nat} {fld:Field} {ps rs:Array TypeId} {va:Bool}
  (hg:P.globalNamed name=some g) (hty:(P.globals[g]?).map (·.type)=some t) (ht:P.underlying t=some (.array n e)) (he:P.underlying e=some (.struct #[fld])) (hft:P.underlying fld.type=some (.func ps rs va))
  (ce:P.cellsOf e=1) (cf:P.cellsOf fld.type=1) (ho:fld.offset=0) (ct:P.cellsOf t=n) {ds:List (DataW (List UInt8))} (hd:d.funcsOut=.agg ds)
  {i:Nat} (hi:i<n) {b:UInt8} {r:List UInt8} (hdi:ds[i]?=some (.agg [.held (b :: r)])) {f0:FuncId}
  (hone:((List.range P.funcs.size).filter fun f=>(P.funcs[f]?).any (·.name.toUTF8.data.toList==b :: r))=[f0]):W.cell? ⟨g,i,none⟩=some (.func (.func f0) #[] #[]):=by
 obtain⟨g',t',cs,fuel,p,hg',ht',hv,hr⟩:=h;obtain rfl:=Option.some.inj (hg.symm.trans hg');obtain rfl:=Option.some.inj (hty.symm.trans ht');obtain⟨xs,m,_,ex,hcl,hl,hel⟩:=DataW.trod_array ht hr;rw[hd] at ex;have e3:xs.map (·.1)=ds:=(DataW.agg.inj (Prod.mk.inj ex).1).symm;obtain⟨v,hv1,hv2⟩:=zoe (l:=cs.toList) (n:=n) (hcl.trans ct) hi;have hE:=hel i hi;rw[ce,Nat.mul_one,hv1] at hE;rw[←e3,List.getElem?_map] at hdi
 cases hx:xs[i]? with
 | none=>rw[hx] at hdi;cases hdi
 | some x =>
  rw[hx] at hE hdi;simp only[Option.map_some,Option.some.injEq] at hdi
  obtain⟨y0,k,rfl,_,hy⟩:=trod_struct1 he hE;rw[cf,ho,List.drop_zero] at hy;have hy0:y0.1=.held (b :: r):=by simpa using hdi
  obtain⟨y1,y2⟩:=y0;subst hy0;obtain rfl:=func_of_trod hft hone (show DataW.trod _ P W 0 _ true k fld.type [v]=_ from hy);rw[World.var?_cell hg hv i];simpa using hv2
theorem zgh (g:Nat):∀ (l:List Value) (i:Nat) (w:World),((l.zipIdx i).foldl (fun w x=>w.setCell ⟨g,x.2,none⟩ x.1) w).os=w.os
 | [],_,_=>rfl
 | _ :: l,i,w=>by rw[List.zipIdx_cons,List.foldl_cons,zgh g l (i+1)];rfl
end Fig
end
section
namespace Fig
open Go Go.Proofs Go.Proofs.YtcmgdjnjmobkoaaGreatDoor
set_option maxRecDepth 100000
def zji:List (String×DataW Unit):=[("unicode/utf8.acceptRanges",Rows.laid_unicode_utf8_acceptRanges),("figurehead/ten.powers",Rows.laid_figurehead_ten_powers),("unicode/utf8.first",Rows.laid_unicode_utf8_first)]
def zfO:List (String×DataW Unit):=[("figurehead/mode.ways",Rows.laid_figurehead_mode_ways),("unicode/utf8.acceptRanges",Rows.laid_unicode_utf8_acceptRanges),("figurehead/ten.powers",Rows.laid_figurehead_ten_powers),("unicode/utf8.first",Rows.laid_unicode_utf8_first)]
def znw:List Value:=[.func (.func 173) #[] #[],.func (.func 174) #[] #[],.func (.func 175) #[] #[],.func (.func 176) #[] #[],.func (.func 177) #[] #[],.func (.func 178) #[] #[],.func (.func 179) #[] #[],.func (.func 180) #[] #[]]
noncomputable def startW (os:Os):World:=(znw.zipIdx 0).foldl (fun w x=>w.setCell ⟨1,x.2,none⟩ x.1) (World.laidAll Tryz.prog os zji)
theorem startW_os (os:Os):(startW os).os=os:=(zgh _ _ _ _).trans (World.laidAll_os _ _ _)
theorem met (os:Os) (args:Array Value):laidMetH Tryz.prog zfO ((startW os).forCall (fun _ _=>0) ⟨#[],args,[]⟩).memory:=
 laidMetH_of_parts3 (fuel:=8) (laidMet_of_run' 8 (by kernel_rfl) (by kernel_rfl)) (by kernel_rfl) (by kernel_rfl)
theorem zkg:(zfO.filter fun x=>x.2.handleName?.isNone)=zji:=by kernel_rfl
theorem zof {W:World} (h:laidMetH Tryz.prog zfO W):laidMet Tryz.prog zji W:=zkg ▸ (laidMetH_iff.1 h).1
theorem zoG {W:World} (h:laidMetH Tryz.prog zfO W):∀ i f,([173,174,175,176,177,178,179,180]:List Nat)[i]?=some f→W.cell? ⟨1,i,none⟩=some (.func (.func f) #[] #[]):=by
 have hF:=h.funcs (n:= "figurehead/mode.ways") (List.mem_cons_self);have gN:Tryz.prog.globalNamed "figurehead/mode.ways"=some 1:=by kernel_rfl
 have gT:(Tryz.prog.globals[1]?).map (·.type)=some 130:=by kernel_rfl
 have c1:Tryz.prog.cellsOf 129=1:=by kernel_rfl
 have c2:Tryz.prog.cellsOf 127=1:=by kernel_rfl
 have c3:Tryz.prog.cellsOf 130=8:=by kernel_rfl
 intro i f hf;have key:∀ {b:UInt8} {r:List UInt8} {j:Nat} {f0:FuncId},j<8→_→_→W.cell? ⟨1,j,none⟩=some (.func (.func f0) #[] #[]):=fun {b} {r} {j} {f0} hj hdi hone=>zmm (b:=b) (r:=r) hF gN gT Tryz.underlying130 Tryz.underlying129 Tryz.underlying127 c1 c2 rfl c3 rfl hj hdi hone
 match i,hf with
 | 0,hf=>obtain rfl:=Option.some.inj hf;exact key (b:=102) (r:=[105,103,117,114,101,104,101,97,100,47,109,111,100,101,46,119,97,121,115,36,49]) (by decide) rfl (by kernel_rfl)
 | 1,hf=>obtain rfl:=Option.some.inj hf;exact key (b:=102) (r:=[105,103,117,114,101,104,101,97,100,47,109,111,100,101,46,119,97,121,115,36,50]) (by decide) rfl (by kernel_rfl)
 | 2,hf=>obtain rfl:=Option.some.inj hf;exact key (b:=102) (r:=[105,103,117,114,101,104,101,97,100,47,109,111,100,101,46,119,97,121,115,36,51]) (by decide) rfl (by kernel_rfl)
 | 3,hf=>obtain rfl:=Option.some.inj hf;exact key (b:=102) (r:=[105,103,117,114,101,104,101,97,100,47,109,111,100,101,46,119,97,121,115,36,52]) (by decide) rfl (by kernel_rfl)
 | 4,hf=>obtain rfl:=Option.some.inj hf;exact key (b:=102) (r:=[105,103,117,114,101,104,101,97,100,47,109,111,100,101,46,119,97,121,115,36,53]) (by decide) rfl (by kernel_rfl)
 | 5,hf=>obtain rfl:=Option.some.inj hf;exact key (b:=102) (r:=[105,103,117,114,101,104,101,97,100,47,109,111,100,101,46,119,97,121,115,36,54]) (by decide) rfl (by kernel_rfl)
 | 6,hf=>obtain rfl:=Option.some.inj hf;exact key (b:=102) (r:=[105,103,117,114,101,104,101,97,100,47,109,111,100,101,46,119,97,121,115,36,55]) (by decide) rfl (by kernel_rfl)
 | 7,hf=>obtain rfl:=Option.some.inj hf;exact key (b:=102) (r:=[105,103,117,114,101,104,101,97,100,47,109,111,100,101,46,119,97,121,115,36,56]) (by decide) rfl (by kernel_rfl)
 | k+8,hf=>simp at hf
theorem zoD {W:World} (h:laidMetH Tryz.prog zfO W):∀ i,i<9→W.cell? ⟨0,i,none⟩=some (.int .u32 (([1,10,100,1000,10000,100000,1000000,10000000,100000000]:List Int).getD i 0)):=by
 have gN:Tryz.prog.globalNamed "figurehead/ten.powers"=some 0:=by kernel_rfl
 have gT:(Tryz.prog.globals[0]?).map (·.type)=some 124:=by kernel_rfl
 have hT:=Lib.tabIs_of_head (k:=.u32) (zs:=[1,10,100,1000,10000,100000,1000000,10000000,100000000]) gN gT Tryz.underlying124 Tryz.underlying95 (by kernel_rfl) (by kernel_rfl) (laidMet.tail (zof h));exact fun i hi=>hT.cell gN i hi
theorem of_laid {W:World} (h:laidMetH Tryz.prog zfO W):Glob W:=⟨zoG h,zoD h⟩
end Fig
end
section
namespace Fig
open Go Go.ChangeShapes Go.WideShapes Go.RowKit Go.Deep Go.WideElems Go.Joins
theorem open_dec {H:Type} {enc:TypeId×Value→H} {P:Program} {w:World} {base:Nat} {spare:Nat→Bool} {held:Bool} {r:Reach} {b0:Nat} {t:TypeId} {f0 f1 f2:Field} {v:Value} {d:DataW H} {p:List MemPlace} {k:IntKind} (hs:P.underlying t=some (.struct #[f0,f1,f2])) (hone:oneCellFields P #[f0,f1,f2]=true) (hC:P.cellsOf t=3)
  (u0:P.underlying f0.type=some .bool) (u1:P.underlying f1.type=some .string) (u2:P.underlying f2.type=some (.int k)) (hv:Value.okWide P w r b0 t v) (h:DataW.Trod enc P w base spare held t v d p) :
  ∃ (x:Bool) (s:ByteArray) (n:Int),v=.agg #[.bool x,.string s,.int k n]∧d=.agg [.lit (.bool x),.lit (.string s.data.toList),.lit (.int k n)]∧p=[]∧s.size≤maxLen∧(Lit.int k n).wf=true:=by
 obtain⟨v0,v1,v2,y0,y1,y2,n,rfl,rfl,rfl,h0,h1,h2⟩:=open_agg3 hs hone hC hv h;obtain⟨x,e0,rfl⟩:=DataW.trod_bool u0 h0;obtain⟨s,e1,rfl,hl⟩:=DataW.trod_string u1 h1;obtain⟨m,e2,rfl,hw⟩:=DataW.trod_int u2 h2;simp only[List.cons.injEq,and_true] at e0 e1 e2
 subst e0 e1 e2;exact⟨x,s,m,rfl,rfl,rfl,hl,hw⟩
theorem shut_dec {H:Type} {enc:TypeId×Value→H} {P:Program} {w:World} {base:Nat} {spare:Nat→Bool} {held:Bool} {t:TypeId} {f0 f1 f2:Field} {k:IntKind} {x:Bool} {s:ByteArray} {n:Int} (hs:P.underlying t=some (.struct #[f0,f1,f2])) (hone:oneCellFields P #[f0,f1,f2]=true) (hC:P.cellsOf t=3)
  (u0:P.underlying f0.type=some .bool) (u1:P.underlying f1.type=some .string) (u2:P.underlying f2.type=some (.int k)) (hl:s.size≤maxLen) (hw:(Lit.int k n).wf=true) :
  DataW.Trod enc P w base spare held t (.agg #[.bool x,.string s,.int k n]) (.agg [.lit (.bool x),.lit (.string s.data.toList),.lit (.int k n)]) []:=
 shut_agg3 (y0:=(.lit (.bool x),[])) (y1:=(.lit (.string s.data.toList),[])) (y2:=(.lit (.int k n),[])) hs hone hC ⟨1,by simp[DataW.trod,u0]⟩ ⟨1,by simp[DataW.trod,u1,hl]⟩ ⟨1,by simp[DataW.trod,u2,hw]⟩
theorem sized_dec {H:Type} {P:Program} {ts:List TypeId} {ds:List (DataW H)} (h:(DataW.weightsEach P ts ds).all (·≤reachBytes)=true) {j:Nat} {t:TypeId} {f0 f1 f2:Field} {x y:DataW H} {bytes:List UInt8} (ht:ts[j]?=some t) (hd:ds[j]?=some (.agg [x,.lit (.string bytes),y])) (hs:P.underlying t=some (.struct #[f0,f1,f2])):bytes.length≤reachBytes:=by
 have:=List.all_eq_true.1 h _ (DataW.weights_mem_each ht hd bytes.length (by simp[DataW.weights,DataW.weightsEach,hs]))
 simpa using this
end Fig
end
