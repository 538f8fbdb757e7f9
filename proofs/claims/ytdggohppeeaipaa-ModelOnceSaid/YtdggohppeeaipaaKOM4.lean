/- What leads to the law, part 4. Conditions: each lemma's own. -/
import Derived.Test.YtdggohppeeaipaaKOM3
set_option linter.unusedVariables false
set_option linter.unusedSimpArgs false
namespace Go.Proofs.Ytdggohppeeaipaa
open Go.RowKit
theorem lZ (z:Array Value) (n:Nat):(Builtin.zeroCells z n).toList.length=n*z.size:=by rw [Array.length_toList,size_zeroCells]
theorem aV {w:World} {g:Nat} {o:Obj} (h:w.heap[g]? = some o):g<w.heap.size:=(Array.getElem?_eq_some_iff.1 h).1
theorem cf:(Try.prog.info? 40).map (·.size)=some 4:=by kernel_rfl
theorem xO:(Try.prog.info? 40).map (fun i=>(i.zero,i.size,i.bytes))=some (some (.agg #[.int .i64 0,.int .i64 0,.int .i64 0,.int .i64 0]),4,32):=by kernel_rfl
set_option maxRecDepth 100000 in
set_option maxHeartbeats 1000000 in
theorem qC {w:World} {n c vc:Nat} {A:Option Addr} {B:Option Addr} {φ:Value->World->Prop} (happ:∀ (F:Fr) (x y:Operand) (ty:TypeId),ev F x=some (.slice A n c)->ev F y=some (.slice B 1 vc)->∃ v2 w2,aL Try.prog 95 F w (.call { callee:=.builtin .append,args:=#[x,y],argTypes:=#[25,25] }) ty v2 w2/\φ v2 w2) :
  gH Try.prog 25 [.slice A n c,.int .i64 (n:Int),.slice B 1 vc].toArray w φ:=by
 refine gH.enter Try.func25 rfl rfl rfl rfl ?_
 refine WC.seq ?_
 refine WC.region ?_
 refine WO.v (R.assign rfl) rfl ?_
 refine WO.nil ?_
 refine WX.next ?_
 refine WC.seq ?_
 refine WC.region ?_
 refine WO.v (R.move rfl) rfl ?_
 refine WO.v (R.move rfl) rfl ?_
 refine WO.v (R.bZ rfl rfl Try.underlying25 cf rfl (by omega)) rfl ?_
 refine WO.nil ?_
 refine WX.next ?_
 refine WC.seq ?_
 refine WC.region ?_
 refine WO.v (R.move rfl) rfl ?_
 refine WO.v (R.len rfl Try.underlying25) rfl ?_
 refine WO.v (R.assign rfl) rfl ?_
 refine WO.nil ?_
 refine WX.next ?_
 refine WC.seq ?_
 refine WC.seq ?_
 refine WC.region ?_
 refine WO.v (R.move rfl) rfl ?_
 refine WO.v (R.eql rfl rfl) rfl ?_
 refine WO.nil ?_
 refine WX.next ?_
 refine WC.cond rfl (fun q=>absurd (of_decide_eq_true q) (by omega)) (fun _=>?_)
 refine WC.skip ?_
 refine WX.next ?_
 refine WC.seq ?_
 refine WC.region ?_
 refine WO.v (R.move rfl) rfl ?_
 refine WO.v (R.len rfl Try.underlying25) rfl ?_
 refine WO.v (R.assign rfl) rfl ?_
 refine WO.nil ?_
 refine WX.next ?_
 refine WC.seq ?_
 refine WC.seq ?_
 refine WC.region ?_
 refine WO.v (R.move rfl) rfl ?_
 refine WO.v (R.move rfl) rfl ?_
 refine WO.v (R.eql rfl rfl) rfl ?_
 refine WO.nil ?_
 refine WX.next ?_
 refine WC.cond rfl (fun _=>?_) (fun q=>absurd rfl (of_decide_eq_false q))
 refine WC.seq ?_
 refine WC.region ?_
 refine WO.v (R.move rfl) rfl ?_
 refine WO.v (R.move rfl) rfl ?_
 refine WO.ve (happ _ _ _ _ rfl rfl) rfl fun v2 w2 hv2=>?_
 refine WO.v (R.assign rfl) rfl ?_
 refine WO.nil ?_
 refine WX.next ?_
 refine WC.ret ?_
 refine WX.gE ?_
 refine WX.s_ rfl rfl ?_
 exact hv2
set_option maxRecDepth 100000 in
set_option maxHeartbeats 1000000 in
theorem nV {w W1:World} {g b n i c vc G:Nat} {ad:Addr} {cur vs ds:List Value} (hi:i<n) (hnc:n<=c) (hc:c<n+1) (hcm:c<=maxLen) (hG:n+1<=G) (hGm:G<=maxLen)
  (happ:∀ (F:Fr) (x y:Operand) (ty:TypeId),ev F x=some (.slice (some ⟨g,0*4,none⟩) i c)->ev F y=some (.int .i64 ((n+1 - i:Nat):Int))->aL Try.prog 95 F w (.call { callee:=.builtin .append,args:=#[x,y],argTypes:=#[25,3] }) ty (.slice (some ⟨b,0,none⟩) (n+1) G) W1)
  (hrow:W1.heap[b]? = some (.cells cur.toArray 40 (0,0))) (hcur:(n+1)*4<=cur.length) (hv:CellsAt W1 ad vs) (hvl:vs.length=4) (hd:CellsAt W1 ⟨g,i*4,none⟩ ds) (hgb:g≠b) (hgl:g<W1.heap.size) (hdl:ds.length=(n - i)*4)
  (h1v:∀ u ∈ vs,u.oneCell' = true) (h1d:∀ u ∈ ds,u.oneCell' = true) :
  gH Try.prog 25 [.slice (some ⟨g,0,none⟩) n c,.int .i64 (i:Int),.slice (some ad) 1 vc].toArray w fun v w'=>v = .slice (some ⟨b,0,none⟩) (n+1) G/\∃ w1,Kp [] (W1.setRow b (cur.take (i*4)++vs++cur.drop (i*4+vs.length)).toArray) w1/\w' = w1.setRow b ((cur.take (i*4)++vs++cur.drop (i*4+vs.length)).take ((i+1)*4)++ds++(cur.take (i*4)++vs++cur.drop (i*4+vs.length)).drop ((i+1)*4+ds.length)).toArray:=by
 have hGm:G<=9223372036854775807:=hGm
 have hcm:c<=9223372036854775807:=hcm
 have hn1:vs.length=Nat.min 1 (n+1 - i)*4:=by rw [show Nat.min 1 (n+1 - i)=1 from Nat.min_eq_left (by omega),Nat.one_mul]; exact hvl
 have hn2:ds.length=Nat.min (n - i) (n+1 - (i+1))*4:=by rw [show Nat.min (n - i) (n+1 - (i+1))=n - i from Nat.min_eq_left (by omega)]; exact hdl
 refine gH.enter Try.func25 rfl rfl rfl rfl ?_
 refine WC.seq ?_
 refine WC.region ?_
 refine WO.v (R.assign rfl) rfl ?_
 refine WO.nil ?_
 refine WX.next ?_
 refine WC.seq ?_
 refine WC.region ?_
 refine WO.v (R.move rfl) rfl ?_
 refine WO.v (R.move rfl) rfl ?_
 refine WO.v (R.bZ rfl rfl Try.underlying25 cf rfl (by omega)) rfl ?_
 refine WO.nil ?_
 refine WX.next ?_
 refine WC.seq ?_
 refine WC.region ?_
 refine WO.v (R.move rfl) rfl ?_
 refine WO.v (R.len rfl Try.underlying25) rfl ?_
 refine WO.v (R.assign rfl) rfl ?_
 refine WO.nil ?_
 refine WX.next ?_
 refine WC.seq ?_
 refine WC.seq ?_
 refine WC.region ?_
 refine WO.v (R.move rfl) rfl ?_
 refine WO.v (R.eql rfl rfl) rfl ?_
 refine WO.nil ?_
 refine WX.next ?_
 refine WC.cond rfl (fun q=>absurd (of_decide_eq_true q) (by omega)) (fun _=>?_)
 refine WC.skip ?_
 refine WX.next ?_
 refine WC.seq ?_
 refine WC.region ?_
 refine WO.v (R.move rfl) rfl ?_
 refine WO.v (R.len rfl Try.underlying25) rfl ?_
 refine WO.v (R.assign rfl) rfl ?_
 refine WO.nil ?_
 refine WX.next ?_
 refine WC.seq ?_
 refine WC.seq ?_
 refine WC.region ?_
 refine WO.v (R.move rfl) rfl ?_
 refine WO.v (R.move rfl) rfl ?_
 refine WO.v (R.eql rfl rfl) rfl ?_
 refine WO.nil ?_
 refine WX.next ?_
 refine WC.cond rfl (fun q=>absurd (of_decide_eq_true q) (by omega)) (fun _=>?_)
 refine WC.skip ?_
 refine WX.next ?_
 refine WC.seq ?_
 refine WC.seq ?_
 refine WC.region ?_
 refine WO.v (R.move rfl) rfl ?_
 refine WO.v (R.move rfl) rfl ?_
 refine WO.v (R.iA rfl rfl (by omega)) rfl ?_
 refine WO.v (R.move rfl) rfl ?_
 refine WO.v (R.CV rfl Try.underlying25) rfl ?_
 refine WO.v (R.gtr rfl rfl) rfl ?_
 refine WO.nil ?_
 refine WX.next ?_
 refine WC.cond rfl (fun _=>?_) (fun q=>absurd (by omega) (of_decide_eq_false q))
 refine WC.seq ?_
 refine WC.region ?_
 refine WO.v (R.move rfl) rfl ?_
 refine WO.v (R.move rfl) rfl ?_
 refine WO.v (R.jK rfl rfl Try.underlying25 cf (dp (i:=0) (by omega)) (by omega)) rfl ?_
 refine WO.v (R.move rfl) rfl ?_
 refine WO.v (R.move rfl) rfl ?_
 refine WO.v (R.iA rfl rfl (by omega)) rfl ?_
 refine WO.v (R.move rfl) rfl ?_
 refine WO.v (R.GU rfl rfl (by omega) (by omega)) rfl ?_
 refine WO.v (happ _ _ _ _ rfl rfl) rfl ?_
 refine WO.v (R.assign rfl) rfl ?_
 refine WO.nil ?_
 refine WX.next ?_
 refine WC.seq ?_
 refine WC.region ?_
 refine WO.v (R.move rfl) rfl ?_
 refine WO.v (R.move rfl) rfl ?_
 refine WO.v (R.bZ rfl rfl Try.underlying25 cf (dp (by omega)) (by omega)) rfl ?_
 refine WO.v (R.move rfl) rfl ?_
 refine WO.v (R.ko rfl rfl Try.underlying25 cf hrow hn1 hv (by omega) h1v) rfl ?_
 refine WO.nil ?_
 refine WX.next ?_
 refine WC.seq ?_
 refine WC.nS gb [.ex [] (.slice (some ⟨b,0,none⟩) (n+1) G),.ex [] (.int .i64 ((i:Nat):Int)),.ex [] (.int .i64 ((1:Nat):Int)),.ex [1,2] (.int .i64 ((i+1:Nat):Int)),.ex [0,3] (.slice (some ⟨b,(i+1)*4,none⟩) (n+1 - (i+1)) (G - (i+1))),.ex [] (.slice (some ⟨g,0,none⟩) n c),.ex [] (.int .i64 ((i:Nat):Int)),.ex [5,6] (.slice (some ⟨g,i*4,none⟩) (n - i) (c - i))] 8 (by kernel_rfl) ⟨fun _ _ _ h _=>h,fun _ _ _ h _=>h,fun _ _ _ h _=>h,fun _ _ _ h _=>h,fun _ _ _ h _=>h,fun _ _ _ h _=>h,fun _ _ _ h _=>h,fun _ _ _ h _=>h,trivial⟩ ⟨?_,?_,?_,?_,?_,?_,?_,?_,trivial⟩ ?_
 ·rintro vs wd kd ⟨-⟩
  refine WO.bm (fr':=[(9,.slice (some ⟨b,0,none⟩) (n+1) G)]) ⟨⟨_,rfl,rfl⟩,trivial⟩ ?_
  refine WO.v (R.move rfl) rfl ?_
  refine WO.nil ?_
  exact WX.aH rfl rfl (Kp.refl _)
 ·rintro vs wd kd ⟨-⟩
  refine WO.bm (fr':=[(1,.int .i64 ((i:Nat):Int))]) ⟨⟨_,rfl,rfl⟩,trivial⟩ ?_
  refine WO.v (R.move rfl) rfl ?_
  refine WO.nil ?_
  exact WX.aH rfl rfl (Kp.refl _)
 ·rintro vs wd kd ⟨-⟩
  refine WO.bm (fr':=[(7,.int .i64 ((1:Nat):Int))]) ⟨⟨_,rfl,rfl⟩,trivial⟩ ?_
  refine WO.v (R.move rfl) rfl ?_
  refine WO.nil ?_
  exact WX.aH rfl rfl (Kp.refl _)
 ·rintro vs wd kd ⟨e1,e2,-⟩
  refine WO.bm (fr':=[(47,.int .i64 ((i:Nat):Int)),(48,.int .i64 ((1:Nat):Int))]) ⟨⟨_,rfl,e1⟩,⟨_,rfl,e2⟩,trivial⟩ ?_
  refine WO.v (R.iA rfl rfl (by omega)) rfl ?_
  refine WO.nil ?_
  exact WX.aH rfl rfl (Kp.refl _)
 ·rintro vs wd kd ⟨e0,e3,-⟩
  refine WO.bm (fr':=[(46,.slice (some ⟨b,0,none⟩) (n+1) G),(49,.int .i64 ((i+1:Nat):Int))]) ⟨⟨_,rfl,e0⟩,⟨_,rfl,e3⟩,trivial⟩ ?_
  refine WO.v (R.bZ rfl rfl Try.underlying25 cf (dp (by omega)) (by omega)) rfl ?_
  refine WO.nil ?_
  exact WX.aH rfl rfl (Kp.refl _)
 ·rintro vs wd kd ⟨-⟩
  refine WO.bm (fr':=[(0,.slice (some ⟨g,0,none⟩) n c)]) ⟨⟨_,rfl,rfl⟩,trivial⟩ ?_
  refine WO.v (R.move rfl) rfl ?_
  refine WO.nil ?_
  exact WX.aH rfl rfl (Kp.refl _)
 ·rintro vs wd kd ⟨-⟩
  refine WO.bm (fr':=[(1,.int .i64 ((i:Nat):Int))]) ⟨⟨_,rfl,rfl⟩,trivial⟩ ?_
  refine WO.v (R.move rfl) rfl ?_
  refine WO.nil ?_
  exact WX.aH rfl rfl (Kp.refl _)
 ·rintro vs wd kd ⟨e5,e6,-⟩
  refine WO.bm (fr':=[(51,.slice (some ⟨g,0,none⟩) n c),(52,.int .i64 ((i:Nat):Int))]) ⟨⟨_,rfl,e5⟩,⟨_,rfl,e6⟩,trivial⟩ ?_
  refine WO.v (R.bZ rfl rfl Try.underlying25 cf (dp (by omega)) (by omega)) rfl ?_
  refine WO.nil ?_
  exact WX.aH rfl rfl (Kp.refl _)
 rintro vsx w1 k1 ⟨-,-,-,-,e4,-,-,e7,-⟩
 replace k1:Kp [] (W1.setRow b (cur.take (i*4)++vs++cur.drop (i*4+vs.length)).toArray) w1:=k1
 refine WO.bm (fr':=[(50,.slice (some ⟨b,(i+1)*4,none⟩) (n+1 - (i+1)) (G - (i+1))),(53,.slice (some ⟨g,i*4,none⟩) (n - i) (c - i)),(9,.slice (some ⟨b,0,none⟩) (n+1) G)]) ⟨⟨_,rfl,e4⟩,⟨_,rfl,e7⟩,⟨_,rfl,rfl⟩,trivial⟩ ?_
 have hb2:w1.heap[b]? = some (.cells (List.toArray (cur.take (i*4)++vs++cur.drop (i*4+vs.length))) 40 (0,0)):=by rw [k1.block b (by simpa using aV hrow) (by simp)]; exact setRow_heap W1 b _ _ 40 _ hrow
 have hd2:CellsAt w1 ⟨g,i*4,none⟩ ds:=(hd.kp (Kp.setRow W1 b _) hgl (by simpa using hgb.symm)).kp k1 (by simpa using hgl) (by simp)
 refine WO.v (R.ko rfl rfl Try.underlying25 cf hb2 hn2 hd2 (by simp only [List.length_append,List.length_take,List.length_drop]; omega) h1d) rfl ?_
 refine WO.nil ?_
 refine WX.next ?_
 refine WC.seq ?_
 refine WC.region ?_
 refine WO.v (R.move rfl) rfl ?_
 refine WO.v (R.assign rfl) rfl ?_
 refine WO.nil ?_
 refine WX.next ?_
 refine WC.ret ?_
 refine WX.gE ?_
 refine WX.s_ rfl rfl ?_
 exact ⟨rfl,w1,k1,rfl⟩
set_option maxRecDepth 100000 in
set_option maxHeartbeats 1000000 in
theorem mS {w:World} {g n i c vc:Nat} {ad:Addr} {cur vs ds:List Value} {curA:Array Value} {tA:TypeId} {fA:Nat × Nat} (hi:i<n) (hc:n+1<=c) (hcm:c<=maxLen)
  (hrow:w.heap[g]? = some (.cells cur.toArray 40 (0,0))) (hcur:(n+1)*4<=cur.length) (hv:CellsAt w ad vs) (hvb:w.heap[ad.block]? = some (.cells curA tA fA)) (hvb0:curA.size≠0) (hne:ad.block≠g) (hvl:vs.length=4) (hd:CellsAt w ⟨g,i*4,none⟩ ds) (hdl:ds.length=(n - i)*4)
  (h1v:∀ u ∈ vs,u.oneCell' = true) (h1d:∀ u ∈ ds,u.oneCell' = true) :
  gH Try.prog 25 [.slice (some ⟨g,0,none⟩) n c,.int .i64 (i:Int),.slice (some ad) 1 vc].toArray w fun v w'=>v = .slice (some ⟨g,0,none⟩) (n+1) c/\∃ w1,Kp [] w w1/\w' = (w1.setRow g (cur.take ((i+1)*4)++ds++cur.drop ((i+1)*4+ds.length)).toArray).setRow g ((cur.take ((i+1)*4)++ds++cur.drop ((i+1)*4+ds.length)).take (i*4)++vs++(cur.take ((i+1)*4)++ds++cur.drop ((i+1)*4+ds.length)).drop (i*4+vs.length)).toArray:=by
 have hcm:c<=9223372036854775807:=hcm
 have hn1:vs.length=Nat.min 1 (n+1 - i)*4:=by rw [show Nat.min 1 (n+1 - i)=1 from Nat.min_eq_left (by omega),Nat.one_mul]; exact hvl
 have hn2:ds.length=Nat.min (n+1 - i) (n+1 - (i+1))*4:=by rw [show Nat.min (n+1 - i) (n+1 - (i+1))=n+1 - (i+1) from Nat.min_eq_right (by omega),hdl]; congr 1; omega
 refine gH.enter Try.func25 rfl rfl rfl rfl ?_
 refine WC.seq ?_
 refine WC.region ?_
 refine WO.v (R.assign rfl) rfl ?_
 refine WO.nil ?_
 refine WX.next ?_
 refine WC.seq ?_
 refine WC.region ?_
 refine WO.v (R.move rfl) rfl ?_
 refine WO.v (R.move rfl) rfl ?_
 refine WO.v (R.bZ rfl rfl Try.underlying25 cf rfl (by omega)) rfl ?_
 refine WO.nil ?_
 refine WX.next ?_
 refine WC.seq ?_
 refine WC.region ?_
 refine WO.v (R.move rfl) rfl ?_
 refine WO.v (R.len rfl Try.underlying25) rfl ?_
 refine WO.v (R.assign rfl) rfl ?_
 refine WO.nil ?_
 refine WX.next ?_
 refine WC.seq ?_
 refine WC.seq ?_
 refine WC.region ?_
 refine WO.v (R.move rfl) rfl ?_
 refine WO.v (R.eql rfl rfl) rfl ?_
 refine WO.nil ?_
 refine WX.next ?_
 refine WC.cond rfl (fun q=>absurd (of_decide_eq_true q) (by omega)) (fun _=>?_)
 refine WC.skip ?_
 refine WX.next ?_
 refine WC.seq ?_
 refine WC.region ?_
 refine WO.v (R.move rfl) rfl ?_
 refine WO.v (R.len rfl Try.underlying25) rfl ?_
 refine WO.v (R.assign rfl) rfl ?_
 refine WO.nil ?_
 refine WX.next ?_
 refine WC.seq ?_
 refine WC.seq ?_
 refine WC.region ?_
 refine WO.v (R.move rfl) rfl ?_
 refine WO.v (R.move rfl) rfl ?_
 refine WO.v (R.eql rfl rfl) rfl ?_
 refine WO.nil ?_
 refine WX.next ?_
 refine WC.cond rfl (fun q=>absurd (of_decide_eq_true q) (by omega)) (fun _=>?_)
 refine WC.skip ?_
 refine WX.next ?_
 refine WC.seq ?_
 refine WC.seq ?_
 refine WC.region ?_
 refine WO.v (R.move rfl) rfl ?_
 refine WO.v (R.move rfl) rfl ?_
 refine WO.v (R.iA rfl rfl (by omega)) rfl ?_
 refine WO.v (R.move rfl) rfl ?_
 refine WO.v (R.CV rfl Try.underlying25) rfl ?_
 refine WO.v (R.gtr rfl rfl) rfl ?_
 refine WO.nil ?_
 refine WX.next ?_
 refine WC.cond rfl (fun q=>absurd (of_decide_eq_true q) (by omega)) (fun _=>?_)
 refine WC.skip ?_
 refine WX.next ?_
 refine WC.seq ?_
 refine WC.region ?_
 refine WO.v (R.move rfl) rfl ?_
 refine WO.v (R.move rfl) rfl ?_
 refine WO.v (R.move rfl) rfl ?_
 refine WO.v (R.iA rfl rfl (by omega)) rfl ?_
 refine WO.v (R.jK rfl rfl Try.underlying25 cf (dp (i:=0) (by omega)) (by omega)) rfl ?_
 refine WO.v (R.assign rfl) rfl ?_
 refine WO.nil ?_
 refine WX.next ?_
 refine WC.seq ?_
 refine WC.seq ?_
 refine WC.region ?_
 refine WO.v (R.move rfl) rfl ?_
 refine WO.v (R.move rfl) rfl ?_
 refine WO.v (R.move rfl) rfl ?_
 refine WO.v (R.move rfl) rfl ?_
 refine WO.v (R.iA rfl rfl (by omega)) rfl ?_
 refine WO.v (R.bZ rfl rfl Try.underlying25 cf (dp (by omega)) (by omega)) rfl ?_
 refine WO.v (R.Im (tS:=25) (tR:=4) Try.func32 rfl rfl (by kernel_rfl) (by kernel_rfl) Try.underlying25 cf hne hvb hvb0 hrow rfl rfl) rfl ?_
 refine WO.v (R.not rfl) rfl ?_
 refine WO.nil ?_
 refine WX.next ?_
 refine WC.zw rfl ?_
 refine WC.seq ?_
 refine WC.nS gb [.ex [] (.slice (some ⟨g,0,none⟩) (n+1) c),.ex [] (.int .i64 ((i:Nat):Int)),.ex [] (.int .i64 ((1:Nat):Int)),.ex [1,2] (.int .i64 ((i+1:Nat):Int)),.ex [0,3] (.slice (some ⟨g,(i+1)*4,none⟩) (n+1 - (i+1)) (c - (i+1))),.ex [] (.slice (some ⟨g,0,none⟩) (n+1) c),.ex [] (.int .i64 ((i:Nat):Int)),.ex [5,6] (.slice (some ⟨g,i*4,none⟩) (n+1 - i) (c - i))] 8 (by kernel_rfl) ⟨fun _ _ _ h _=>h,fun _ _ _ h _=>h,fun _ _ _ h _=>h,fun _ _ _ h _=>h,fun _ _ _ h _=>h,fun _ _ _ h _=>h,fun _ _ _ h _=>h,fun _ _ _ h _=>h,trivial⟩ ⟨?_,?_,?_,?_,?_,?_,?_,?_,trivial⟩ ?_
 ·rintro vs wd kd ⟨-⟩
  refine WO.bm (fr':=[(0,.slice (some ⟨g,0,none⟩) (n+1) c)]) ⟨⟨_,rfl,rfl⟩,trivial⟩ ?_
  refine WO.v (R.move rfl) rfl ?_
  refine WO.nil ?_
  exact WX.aH rfl rfl (Kp.refl _)
 ·rintro vs wd kd ⟨-⟩
  refine WO.bm (fr':=[(1,.int .i64 ((i:Nat):Int))]) ⟨⟨_,rfl,rfl⟩,trivial⟩ ?_
  refine WO.v (R.move rfl) rfl ?_
  refine WO.nil ?_
  exact WX.aH rfl rfl (Kp.refl _)
 ·rintro vs wd kd ⟨-⟩
  refine WO.bm (fr':=[(7,.int .i64 ((1:Nat):Int))]) ⟨⟨_,rfl,rfl⟩,trivial⟩ ?_
  refine WO.v (R.move rfl) rfl ?_
  refine WO.nil ?_
  exact WX.aH rfl rfl (Kp.refl _)
 ·rintro vs wd kd ⟨e1,e2,-⟩
  refine WO.bm (fr':=[(70,.int .i64 ((i:Nat):Int)),(71,.int .i64 ((1:Nat):Int))]) ⟨⟨_,rfl,e1⟩,⟨_,rfl,e2⟩,trivial⟩ ?_
  refine WO.v (R.iA rfl rfl (by omega)) rfl ?_
  refine WO.nil ?_
  exact WX.aH rfl rfl (Kp.refl _)
 ·rintro vs wd kd ⟨e0,e3,-⟩
  refine WO.bm (fr':=[(69,.slice (some ⟨g,0,none⟩) (n+1) c),(72,.int .i64 ((i+1:Nat):Int))]) ⟨⟨_,rfl,e0⟩,⟨_,rfl,e3⟩,trivial⟩ ?_
  refine WO.v (R.bZ rfl rfl Try.underlying25 cf (dp (by omega)) (by omega)) rfl ?_
  refine WO.nil ?_
  exact WX.aH rfl rfl (Kp.refl _)
 ·rintro vs wd kd ⟨-⟩
  refine WO.bm (fr':=[(0,.slice (some ⟨g,0,none⟩) (n+1) c)]) ⟨⟨_,rfl,rfl⟩,trivial⟩ ?_
  refine WO.v (R.move rfl) rfl ?_
  refine WO.nil ?_
  exact WX.aH rfl rfl (Kp.refl _)
 ·rintro vs wd kd ⟨-⟩
  refine WO.bm (fr':=[(1,.int .i64 ((i:Nat):Int))]) ⟨⟨_,rfl,rfl⟩,trivial⟩ ?_
  refine WO.v (R.move rfl) rfl ?_
  refine WO.nil ?_
  exact WX.aH rfl rfl (Kp.refl _)
 ·rintro vs wd kd ⟨e5,e6,-⟩
  refine WO.bm (fr':=[(74,.slice (some ⟨g,0,none⟩) (n+1) c),(75,.int .i64 ((i:Nat):Int))]) ⟨⟨_,rfl,e5⟩,⟨_,rfl,e6⟩,trivial⟩ ?_
  refine WO.v (R.bZ rfl rfl Try.underlying25 cf (dp (by omega)) (by omega)) rfl ?_
  refine WO.nil ?_
  exact WX.aH rfl rfl (Kp.refl _)
 rintro vsx w1 k1 ⟨-,-,-,-,e4,-,-,e7,-⟩
 replace k1:Kp [] w w1:=k1
 refine WO.bm (fr':=[(73,.slice (some ⟨g,(i+1)*4,none⟩) (n+1 - (i+1)) (c - (i+1))),(76,.slice (some ⟨g,i*4,none⟩) (n+1 - i) (c - i)),(0,.slice (some ⟨g,0,none⟩) (n+1) c),(1,.int .i64 ((i:Nat):Int)),(2,.slice (some ad) 1 vc)]) ⟨⟨_,rfl,e4⟩,⟨_,rfl,e7⟩,⟨_,rfl,rfl⟩,⟨_,rfl,rfl⟩,⟨_,rfl,rfl⟩,trivial⟩ ?_
 have hg1:w1.heap[g]? = some (.cells (List.toArray cur) 40 (0,0)):=by rw [k1.block g (aV hrow) (by simp)]; exact hrow
 refine WO.v (R.ko rfl rfl Try.underlying25 cf hg1 hn2 (hd.kp k1 (aV hrow) (by simp)) (by omega) h1d) rfl ?_
 refine WO.nil ?_
 refine WX.next ?_
 have hg2:(w1.setRow g (cur.take ((i+1)*4)++ds++cur.drop ((i+1)*4+ds.length)).toArray).heap[g]? = some (.cells (List.toArray (cur.take ((i+1)*4)++ds++cur.drop ((i+1)*4+ds.length))) 40 (0,0)):=setRow_heap w1 g _ _ 40 _ hg1
 have hv2:CellsAt (w1.setRow g (cur.take ((i+1)*4)++ds++cur.drop ((i+1)*4+ds.length)).toArray) ad vs:=(hv.kp k1 (aV hvb) (by simp)).kp (Kp.setRow w1 g _) (Nat.lt_of_lt_of_le (aV hvb) k1.size) (by simpa using fun h=>hne h.symm)
 refine WC.seq ?_
 refine WC.region ?_
 refine WO.v (R.move rfl) rfl ?_
 refine WO.v (R.move rfl) rfl ?_
 refine WO.v (R.bZ rfl rfl Try.underlying25 cf (dp (by omega)) (by omega)) rfl ?_
 refine WO.v (R.move rfl) rfl ?_
 refine WO.v (R.ko rfl rfl Try.underlying25 cf hg2 hn1 hv2 (by simp only [List.length_append,List.length_take,List.length_drop]; omega) h1v) rfl ?_
 refine WO.nil ?_
 refine WX.next ?_
 refine WC.seq ?_
 refine WC.region ?_
 refine WO.v (R.move rfl) rfl ?_
 refine WO.v (R.assign rfl) rfl ?_
 refine WO.nil ?_
 refine WX.next ?_
 refine WC.ret ?_
 refine WX.gE ?_
 refine WX.s_ rfl rfl ?_
 exact ⟨rfl,w1,k1,rfl⟩
theorem rz {G:Gl} {ρ:List RE} {H:AH} {w:World} (hs:G.shp=au aJ) (hR:Rep G ρ H w) {l m:List (den (.nm .sess))} (hH:getO H 0 = .row 40 (.nm .sess) l) (hl:l.length<1048576) {i:Nat} (hi:i<=l.length) {v0:Value} (h0:Rd (cx G ρ w) ρ (.own 0) v0)
  {ad:Addr} {k:Nat} {cys:List Value} {bAV:AV} (hm:m.length=1) (hb:Rd (cx G ρ w) ρ bAV (.slice (some ad) 1 k)) (hbv:(bAV.vw H).e_ (.nm .sess)=some m) (hv:CellsAt w ad cys) (hvl:cys.length=4) (h1v:∀ u ∈ cys,u.oneCell' = true) (hp:Pds (cx G ρ w) (m.flatMap (cellsOf (.nm .sess))) cys)
  (hne:∀ g c n z,ρ[0]? = some (.row g c n z)->ad.block≠g) {curA:Array Value} {tA:TypeId} {fA:Nat × Nat} (hvb:w.heap[ad.block]? = some (.cells curA tA fA)) (hvb0:curA.size≠0) :
  gH Try.prog 25 [v0,.int .i64 (i:Int),.slice (some ad) 1 k].toArray w fun v w'=>∃ ρ',Stp (xa 0) ρ w ρ' w' /\ Rep G ρ' ((ez (AV.kill 0) H).set 0 (.row 40 (.nm .sess) (l.take i++m++l.drop i))) w' /\ Rd (cx G ρ' w') ρ' (.own 0) v:=by
 have hT:bg Try.prog G.shp aJ:=hs ▸ fY
 obtain ⟨hshp,hlen⟩:=cR hR hH
 have hl64:l.length<=9223372036854775807:=by omega
 have hin:((l.length:Nat):Int)<=9223372036854775807:=by omega
 by_cases hie:i=l.length
 ·subst hie
  have hc:∃ A c,v0 = .slice A l.length c:=by
   rcases h0 with ⟨g,cap,len,z,h1,rfl⟩ | ⟨h1,a,rfl⟩
   ·rcases bk hR hH with ⟨h2,_⟩ | ⟨g',cap',cells,sp,h2,_⟩
    ·rw [h1] at h2; cases h2
    ·rw [h1] at h2; cases h2; exact ⟨_,_,rfl⟩
   ·rcases bk hR hH with ⟨_,h2⟩ | ⟨g',cap',cells,sp,h2,_⟩
    ·subst h2; exact ⟨_,_,rfl⟩
    ·rw [h1] at h2; cases h2
  obtain ⟨A,c,rfl⟩:=hc
  refine qC fun F x y ty hx hy=>?_
  have happ:fC aJ (xa 0) ([]:AFr) H 25 (.own 0) bAV=some ⟨one (.own 0),[],(ez (AV.kill 0) H).set 0 (.row 40 (.nm .sess) (l++m)),[(l.length+m.length)*(Sh.nm NT.sess).bytes<=140737488355328],[]⟩:=by
   unfold fC
   rw [show bl aJ 25=some ⟨.sl 40 (some (.nm .sess)),1,[.em true]⟩ from by kernel_rfl]
   simp only [hbv,hH]
   rfl
  obtain ⟨v,w',h1,ρ',h2,h3,_,h5,_⟩:=fB (P:=Try.prog) (n:=95) (F:=[]) (ty:=ty) (fr:=[]) (x:=.const (.slice A l.length c)) (y:=.const (.slice (some ad) 1 k)) hT hR .nil happ (by
   intro p hp
   rw [List.mem_singleton] at hp; subst hp
   show (l.length+m.length)*32<=_
   omega) h0 hb rfl rfl
  refine ⟨v,w',R.uB h1 hx hy,ρ',h2,?_,h5⟩
  rw [List.take_length,List.drop_length,List.append_nil]
  exact h3
 ·have hlt:i<l.length:=by omega
  rcases bk hR hH with ⟨_,h2⟩ | ⟨g,cap,cells,sp,hρ,hg,hpd,hsz,hcap,hmax⟩
  ·subst h2; simp at hlt
  obtain ⟨hnb,hil,hiH⟩:=jS hR hH
  have hv0:v0 = .slice (some ⟨g,0,none⟩) l.length cap:=by
   rcases h0 with ⟨g',cap',len,z,h1,rfl⟩ | ⟨h1,a,rfl⟩
   ·rw [hρ] at h1; cases h1; rfl
   ·rw [hρ] at h1; cases h1
  subst hv0
  have hz:(Sh.nm NT.sess).size=4:=rfl
  have hby:(Sh.nm NT.sess).bytes=32:=rfl
  have hcl:cells.length=l.length*4:=by rw [<- hpd.length,bD,hz]
  rw [hz,List.length_append] at hsz
  have hone:∀ u ∈ cells.drop (i*4),u.oneCell' = true:=fun u hu=>hpd.xp u (List.mem_of_mem_drop hu)
  have hd:CellsAt w ⟨g,i*4,none⟩ (cells.drop (i*4)):=by
   have:=(bS hg).shift (i*4)
   rwa [add_lit,Nat.zero_add] at this
  have hdl:(cells.drop (i*4)).length=(l.length - i)*4:=by rw [List.length_drop,hcl]; omega
  have hgl:=aV hg
  have hzl:(l.take i++m++l.drop i).length=l.length+1:=by
   rw [List.length_append,List.length_append,List.length_take,List.length_drop,hm]; omega
  have hnew:∀ {c:Cx},(cx G ρ w).le c->Pds c ((l.take i++m++l.drop i).flatMap (cellsOf (.nm .sess))) (cells.take (i*4)++cys++cells.drop (i*4)):=fun {c} hle=>by
   rw [List.flatMap_append,List.flatMap_append]
   exact (((bz hpd i).append hp).append (bI hpd i)).carry hle
  have hnl:(cells.take (i*4)++cys++cells.drop (i*4)).length=(l.length+1)*4:=by
   rw [List.length_append,List.length_append,List.length_take,List.length_drop,hcl,hvl]; omega
  have hbig:(l.take i++m++l.drop i).length*(Sh.nm NT.sess).bytes<=140737488355328:=by rw [hzl,hby]; omega
  -- what is shown of any way
  have fin:∀ (S:List Nat) (g2 cap2:Nat) (sp2:List Value) (w':World),Kp S w w' -> (∀ b ∈ S,b=g)->(g2=g\/w.heap.size<=g2)->w'.heap[g2]? = some (.cells (List.toArray (cells.take (i*4)++cys++cells.drop (i*4)++sp2)) 40 (0,0))->(l.length+1)*4+sp2.length=cap2*4->l.length+1<=cap2->cap2<=maxLen ->
    ∃ ρ',Stp (xa 0) ρ w ρ' w' /\ Rep G ρ' ((ez (AV.kill 0) H).set 0 (.row 40 (.nm .sess) (l.take i++m++l.drop i))) w' /\ Rd (cx G ρ' w') ρ' (.own 0) (.slice (some ⟨g2,0,none⟩) (l.length+1) cap2):=by
   intro S g2 cap2 sp2 w' hk hS hg2 hh hlen2 hle2 hmax2
   obtain ⟨k1,k2,_⟩:=iU (ro:=xa 0) (s':=.nm .sess) (e':=40) (zs:=l.take i++m++l.drop i) hR hH ⟨rfl,rfl⟩ hk (fun b hb=>⟨_,hρ,by rw [hS b hb]; rfl⟩) (r':=.row g2 cap2 (l.take i++m++l.drop i).length (Sh.nm NT.sess).size) (fun b hb=>by
    cases hb
    rcases hg2 with rfl | hg2
    ·exact .inl ⟨_,hρ,rfl⟩
    ·exact .inr ⟨hg2,aV hh⟩) (fun hle=>⟨hshp,hbig,.inr ⟨g2,cap2,_,sp2,rfl,hh,hnew hle,by rw [List.length_append,hnl,hz]; exact hlen2,by rw [hzl]; exact hle2,hmax2⟩⟩)
   exact ⟨_,k1,k2,.inl ⟨g2,cap2,_,_,List.getElem?_set_self hil,by rw [hzl]⟩⟩
  have eo:(i+1)*4=i*4+4:=by omega
  by_cases hroom:l.length+1<=cap
  ·refine (mS hlt hroom hmax hg (by rw [List.length_append]; omega) hv hvb hvb0 (hne _ _ _ _ hρ) hvl hd hdl h1v hone).mono fun v w' ⟨e1,w1,k1,e2⟩=>?_
   subst e1; subst e2
   rw [eo,Dz (by omega) hvl]
   have hk:Kp [g] w ((w1.setRow g ((cells++sp).take (i*4+4)++cells.drop (i*4)++(cells++sp).drop (i*4+4+(cells.drop (i*4)).length)).toArray).setRow g (cells.take (i*4)++cys++cells.drop (i*4)++sp.drop 4).toArray):=((k1.sub (by simp)).step (Kp.setRow w1 g _) (by simp)).step (Kp.setRow _ g _) (by simp)
   have hg1:w1.heap[g]? = some (.cells (List.toArray (cells++sp)) 40 (0,0)):=by rw [k1.block g hgl (by simp)]; exact hg
   exact fin [g] g cap (sp.drop 4) _ hk (by simp) (.inl rfl) (setRow_heap _ g _ _ 40 _ (setRow_heap w1 g _ _ 40 _ hg1)) (by rw [List.length_drop]; omega) hroom hmax
  ·obtain ⟨ti,hi0,hz0,hz1,hz2⟩:=info_parts xO
   have eik:i+(l.length+1 - i)=l.length+1:=by omega
   have hge:=grownCap_ge w (l.length+1) cap 40
   have hgm:=grownCap_le_maxLen w (l.length+1) cap 40 (by simp [maxLen]; omega)
   have hold:(Builtin.firstCells ti.size i (.slice (some ⟨g,0*4,none⟩) i cap)).run Try.prog w.drew = .ok (cells.take (i*4)).toArray w.drew:=by
    have h:=run_loadCells_list (P:=Try.prog) w.drew ⟨g,0*4,none⟩ (cells.take (i*4)) (by rw [Nat.zero_mul]; exact (bS hg).take _)
    rw [List.length_take,Nat.min_eq_left (by omega)] at h
    rw [hz1]; exact h
   have happ:∀ (F:Fr) (x y:Operand) (ty:TypeId),ev F x=some (.slice (some ⟨g,0*4,none⟩) i cap)->ev F y=some (.int .i64 ((l.length+1 - i:Nat):Int))->aL Try.prog 95 F w (.call { callee:=.builtin .append,args:=#[x,y],argTypes:=#[25,3] }) ty (.slice (some ⟨w.heap.size,0,none⟩) (l.length+1) (grownCap w (l.length+1) cap 40)) (w.drew.alloc (.cells (List.toArray (cells.take (i*4)++((Builtin.zeroCells (Value.agg #[.int .i64 0,.int .i64 0,.int .i64 0,.int .i64 0]).cells (l.length+1 - i)).toList++(Builtin.zeroCells (Value.agg #[.int .i64 0,.int .i64 0,.int .i64 0,.int .i64 0]).cells (grownCap w (l.length+1) cap 40 - (l.length+1))).toList))) 40)):=fun F x y ty hx hy=>by
    have h:=R.GW (P:=Try.prog) (n:=95) (ty:=ty) hx hy Try.underlying25 Try.underlying3 hi0 hz0 hold (by omega) (by rw [hz1]; decide) (by omega) (by omega) (by rw [hz2]; omega) (by rw [hz2,eik]; exact growslice_fits (by omega) (by omega))
    rw [eik] at h
    have e:∀ (a:List Value) (b c:Array Value),a.toArray++b++c=(a++(b.toList++c.toList)).toArray:=fun a b c=>by apply Array.ext'; simp
    rw [e] at h
    exact h
   have hcurl:(cells.take (i*4)++((Builtin.zeroCells (Value.agg #[.int .i64 0,.int .i64 0,.int .i64 0,.int .i64 0]).cells (l.length+1 - i)).toList++(Builtin.zeroCells (Value.agg #[.int .i64 0,.int .i64 0,.int .i64 0,.int .i64 0]).cells (grownCap w (l.length+1) cap 40 - (l.length+1))).toList)).length=grownCap w (l.length+1) cap 40*4:=by
    rw [List.length_append,List.length_append,List.length_take,lZ,lZ]
    show min _ _+((l.length+1 - i)*4+(grownCap w (l.length+1) cap 40 - (l.length+1))*4)=_
    omega
   have htk:(cells.take (i*4)++((Builtin.zeroCells (Value.agg #[.int .i64 0,.int .i64 0,.int .i64 0,.int .i64 0]).cells (l.length+1 - i)).toList++(Builtin.zeroCells (Value.agg #[.int .i64 0,.int .i64 0,.int .i64 0,.int .i64 0]).cells (grownCap w (l.length+1) cap 40 - (l.length+1))).toList)).take (i*4)=cells.take (i*4):=List.take_left' (by rw [List.length_take]; omega)
   generalize grownCap w (l.length+1) cap 40=GC at *
   generalize cells.take (i*4)++((Builtin.zeroCells (Value.agg #[.int .i64 0,.int .i64 0,.int .i64 0,.int .i64 0]).cells (l.length+1 - i)).toList++(Builtin.zeroCells (Value.agg #[.int .i64 0,.int .i64 0,.int .i64 0,.int .i64 0]).cells (GC - (l.length+1))).toList)=cur at *
   have hK1:Kp [] w (w.drew.alloc (.cells (List.toArray cur) 40)):=((Kp.refl w).drew).step (Kp.alloc w.drew _) (by simp)
   have hrow:(w.drew.alloc (.cells (List.toArray cur) 40)).heap[w.heap.size]? = some (.cells (List.toArray cur) 40 (0,0)):=heap_alloc_new w.drew _
   generalize w.drew.alloc (.cells (List.toArray cur) 40)=W1 at *
   refine (nV hlt hcap (by omega) hmax hge hgm happ hrow (by omega) (hv.kp hK1 (aV hvb) (by simp)) hvl (hd.kp hK1 hgl (by simp)) (by omega) (Nat.lt_of_lt_of_le hgl hK1.size) hdl h1v hone).mono fun v w' ⟨e1,w1,k1,e2⟩=>?_
   subst e1; subst e2
   rw [eo,Du (cells:=cells) (by omega) hvl htk]
   have hs1:∀ b ∈ [w.heap.size],b ∈ ([]:List Nat)\/w.heap.size<=b:=fun b hb=>.inr (by rw [List.mem_singleton] at hb; omega)
   have hk:Kp [] w (w1.setRow w.heap.size (cells.take (i*4)++cys++cells.drop (i*4)++cur.drop (i*4+4+(cells.drop (i*4)).length)).toArray):=((hK1.step (Kp.setRow W1 w.heap.size _) hs1).step k1 (by simp)).step (Kp.setRow w1 w.heap.size _) hs1
   have hg1:=(k1.block w.heap.size (by simpa using aV hrow) (by simp)).trans (setRow_heap W1 w.heap.size _ (cur.take (i*4)++cys++cur.drop (i*4+cys.length)).toArray 40 _ hrow)
   exact fin [] w.heap.size GC _ _ hk (by simp) (.inr (Nat.le_refl _)) (setRow_heap w1 w.heap.size _ _ 40 _ hg1) (by rw [List.length_drop]; omega) hge hgm
theorem pq (i:Int) (l m:List (den (.nm .sess))) (h:0<=i/\i<=(l.length:Int)) (hl:l.length<1048576) (hm:m.length=1):Sat Try.prog (au aJ) 25 [.c (.own 0),.c (.int i),.c (.own 1)] [.row 40 (.nm .sess) l,.row 40 (.nm .sess) m] ⟨[0<=i/\i<=(l.length:Int),l.length<1048576,m.length=1],[.c (.own 0)],some [.row 40 (.nm .sess) (l.take i.toNat++m++l.drop i.toNat),.row 40 (.nm .sess) m],false⟩:=by
 refine ⟨⟨_,Try.func25,by decide,rfl⟩,fun G ρ w vs hs hR hvs=>?_⟩
 obtain ⟨i,rfl⟩:=Int.eq_ofNat_of_zero_le h.1
 cases hvs with | cons h0 hvs=>
 cases hvs with | cons h1 hvs=>
 cases hvs with | cons h2 hvs=>
 cases hvs
 have h1:Pd (cx G ρ w) (.int (i:Int)) _:=h1
 cases h1
 have h0:Rd (cx G ρ w) ρ (.own 0) _:=h0
 have h2:Rd (cx G ρ w) ρ (.own 1) _:=h2
 have hH:getO [AO.row 40 (.nm .sess) l,.row 40 (.nm .sess) m] 0 = .row 40 (.nm .sess) l:=rfl
 have hbv:(AV.vw [AO.row 40 (.nm .sess) l,.row 40 (.nm .sess) m] (.own 1)).e_ (.nm .sess)=some m:=by simp [AV.vw,AV.e_,getO]
 obtain ⟨A,k,cys,rfl,s1,s2,s3,s4⟩:=mD hR hbv h2
 rw [hm] at h2 s1 s3
 rw [hm]
 obtain ⟨ad,rfl,s5⟩:∃ ad,A=some ad/\CellsAt w ad cys:=s3.resolve_left (by decide)
 have hz:(Sh.nm NT.sess).size=4:=rfl
 rw [hz] at s1
 obtain ⟨u,hu⟩:∃ u,cys[0]? = some u:=⟨_,List.getElem?_eq_getElem (by omega)⟩
 obtain ⟨cur,t,f,hc,hc0⟩:=nA (s5 0 u hu)
 have hne:∀ g c n z,ρ[0]? = some (.row g c n z)->ad.block≠g:=fun g c n z hg e=>by
  rcases h2 with ⟨g',cap',len,z',h3,h4⟩ | ⟨h3,a,h4⟩
  ·cases h4
   have:=hR.inj 0 1 _ _ g hg h3 rfl (by rw [<- e]; rfl)
   omega
  ·cases h4
 rw [fj] at hc
 refine (rz hs hR hH hl (by omega) h0 hm h2 hbv s5 s1 s2 s4 hne hc hc0).mono fun v w' ⟨ρ',k1,k2,k3⟩=>?_
 exact ⟨[v],rfl,ρ',k2,k1.ext,k1.bx,.cons k3 .nil,fun hb=>by cases hb⟩
theorem cg:(Try.prog.info? 48).map (·.size)=some 2:=by kernel_rfl
theorem tQ:(Try.prog.info? 48).map (fun i=>(i.zero,i.size,i.bytes))=some (some (.agg #[.int .i64 0,.int .i64 0]),2,16):=by kernel_rfl
set_option maxRecDepth 100000 in
set_option maxHeartbeats 1000000 in
theorem sx {w:World} {n c vc:Nat} {A:Option Addr} {B:Option Addr} {φ:Value->World->Prop} (happ:∀ (F:Fr) (x y:Operand) (ty:TypeId),ev F x=some (.slice A n c)->ev F y=some (.slice B 1 vc)->∃ v2 w2,aL Try.prog 95 F w (.call { callee:=.builtin .append,args:=#[x,y],argTypes:=#[26,26] }) ty v2 w2/\φ v2 w2) :
  gH Try.prog 80 [.slice A n c,.int .i64 (n:Int),.slice B 1 vc].toArray w φ:=by
 refine gH.enter Try.func80 rfl rfl rfl rfl ?_
 refine WC.seq ?_
 refine WC.region ?_
 refine WO.v (R.assign rfl) rfl ?_
 refine WO.nil ?_
 refine WX.next ?_
 refine WC.seq ?_
 refine WC.region ?_
 refine WO.v (R.move rfl) rfl ?_
 refine WO.v (R.move rfl) rfl ?_
 refine WO.v (R.bZ rfl rfl Try.underlying26 cg rfl (by omega)) rfl ?_
 refine WO.nil ?_
 refine WX.next ?_
 refine WC.seq ?_
 refine WC.region ?_
 refine WO.v (R.move rfl) rfl ?_
 refine WO.v (R.len rfl Try.underlying26) rfl ?_
 refine WO.v (R.assign rfl) rfl ?_
 refine WO.nil ?_
 refine WX.next ?_
 refine WC.seq ?_
 refine WC.seq ?_
 refine WC.region ?_
 refine WO.v (R.move rfl) rfl ?_
 refine WO.v (R.eql rfl rfl) rfl ?_
 refine WO.nil ?_
 refine WX.next ?_
 refine WC.cond rfl (fun q=>absurd (of_decide_eq_true q) (by omega)) (fun _=>?_)
 refine WC.skip ?_
 refine WX.next ?_
 refine WC.seq ?_
 refine WC.region ?_
 refine WO.v (R.move rfl) rfl ?_
 refine WO.v (R.len rfl Try.underlying26) rfl ?_
 refine WO.v (R.assign rfl) rfl ?_
 refine WO.nil ?_
 refine WX.next ?_
 refine WC.seq ?_
 refine WC.seq ?_
 refine WC.region ?_
 refine WO.v (R.move rfl) rfl ?_
 refine WO.v (R.move rfl) rfl ?_
 refine WO.v (R.eql rfl rfl) rfl ?_
 refine WO.nil ?_
 refine WX.next ?_
 refine WC.cond rfl (fun _=>?_) (fun q=>absurd rfl (of_decide_eq_false q))
 refine WC.seq ?_
 refine WC.region ?_
 refine WO.v (R.move rfl) rfl ?_
 refine WO.v (R.move rfl) rfl ?_
 refine WO.ve (happ _ _ _ _ rfl rfl) rfl fun v2 w2 hv2=>?_
 refine WO.v (R.assign rfl) rfl ?_
 refine WO.nil ?_
 refine WX.next ?_
 refine WC.ret ?_
 refine WX.gE ?_
 refine WX.s_ rfl rfl ?_
 exact hv2
set_option maxRecDepth 100000 in
set_option maxHeartbeats 1000000 in
theorem qB {w W1:World} {g b n i c vc G:Nat} {ad:Addr} {cur vs ds:List Value} (hi:i<n) (hnc:n<=c) (hc:c<n+1) (hcm:c<=maxLen) (hG:n+1<=G) (hGm:G<=maxLen)
  (happ:∀ (F:Fr) (x y:Operand) (ty:TypeId),ev F x=some (.slice (some ⟨g,0*2,none⟩) i c)->ev F y=some (.int .i64 ((n+1 - i:Nat):Int))->aL Try.prog 95 F w (.call { callee:=.builtin .append,args:=#[x,y],argTypes:=#[26,3] }) ty (.slice (some ⟨b,0,none⟩) (n+1) G) W1)
  (hrow:W1.heap[b]? = some (.cells cur.toArray 48 (0,0))) (hcur:(n+1)*2<=cur.length) (hv:CellsAt W1 ad vs) (hvl:vs.length=2) (hd:CellsAt W1 ⟨g,i*2,none⟩ ds) (hgb:g≠b) (hgl:g<W1.heap.size) (hdl:ds.length=(n - i)*2)
  (h1v:∀ u ∈ vs,u.oneCell' = true) (h1d:∀ u ∈ ds,u.oneCell' = true) :
  gH Try.prog 80 [.slice (some ⟨g,0,none⟩) n c,.int .i64 (i:Int),.slice (some ad) 1 vc].toArray w fun v w'=>v = .slice (some ⟨b,0,none⟩) (n+1) G/\∃ w1,Kp [] (W1.setRow b (cur.take (i*2)++vs++cur.drop (i*2+vs.length)).toArray) w1/\w' = w1.setRow b ((cur.take (i*2)++vs++cur.drop (i*2+vs.length)).take ((i+1)*2)++ds++(cur.take (i*2)++vs++cur.drop (i*2+vs.length)).drop ((i+1)*2+ds.length)).toArray:=by
 have hGm:G<=9223372036854775807:=hGm
 have hcm:c<=9223372036854775807:=hcm
 have hn1:vs.length=Nat.min 1 (n+1 - i)*2:=by rw [show Nat.min 1 (n+1 - i)=1 from Nat.min_eq_left (by omega),Nat.one_mul]; exact hvl
 have hn2:ds.length=Nat.min (n - i) (n+1 - (i+1))*2:=by rw [show Nat.min (n - i) (n+1 - (i+1))=n - i from Nat.min_eq_left (by omega)]; exact hdl
 refine gH.enter Try.func80 rfl rfl rfl rfl ?_
 refine WC.seq ?_
 refine WC.region ?_
 refine WO.v (R.assign rfl) rfl ?_
 refine WO.nil ?_
 refine WX.next ?_
 refine WC.seq ?_
 refine WC.region ?_
 refine WO.v (R.move rfl) rfl ?_
 refine WO.v (R.move rfl) rfl ?_
 refine WO.v (R.bZ rfl rfl Try.underlying26 cg rfl (by omega)) rfl ?_
 refine WO.nil ?_
 refine WX.next ?_
 refine WC.seq ?_
 refine WC.region ?_
 refine WO.v (R.move rfl) rfl ?_
 refine WO.v (R.len rfl Try.underlying26) rfl ?_
 refine WO.v (R.assign rfl) rfl ?_
 refine WO.nil ?_
 refine WX.next ?_
 refine WC.seq ?_
 refine WC.seq ?_
 refine WC.region ?_
 refine WO.v (R.move rfl) rfl ?_
 refine WO.v (R.eql rfl rfl) rfl ?_
 refine WO.nil ?_
 refine WX.next ?_
 refine WC.cond rfl (fun q=>absurd (of_decide_eq_true q) (by omega)) (fun _=>?_)
 refine WC.skip ?_
 refine WX.next ?_
 refine WC.seq ?_
 refine WC.region ?_
 refine WO.v (R.move rfl) rfl ?_
 refine WO.v (R.len rfl Try.underlying26) rfl ?_
 refine WO.v (R.assign rfl) rfl ?_
 refine WO.nil ?_
 refine WX.next ?_
 refine WC.seq ?_
 refine WC.seq ?_
 refine WC.region ?_
 refine WO.v (R.move rfl) rfl ?_
 refine WO.v (R.move rfl) rfl ?_
 refine WO.v (R.eql rfl rfl) rfl ?_
 refine WO.nil ?_
 refine WX.next ?_
 refine WC.cond rfl (fun q=>absurd (of_decide_eq_true q) (by omega)) (fun _=>?_)
 refine WC.skip ?_
 refine WX.next ?_
 refine WC.seq ?_
 refine WC.seq ?_
 refine WC.region ?_
 refine WO.v (R.move rfl) rfl ?_
 refine WO.v (R.move rfl) rfl ?_
 refine WO.v (R.iA rfl rfl (by omega)) rfl ?_
 refine WO.v (R.move rfl) rfl ?_
 refine WO.v (R.CV rfl Try.underlying26) rfl ?_
 refine WO.v (R.gtr rfl rfl) rfl ?_
 refine WO.nil ?_
 refine WX.next ?_
 refine WC.cond rfl (fun _=>?_) (fun q=>absurd (by omega) (of_decide_eq_false q))
 refine WC.seq ?_
 refine WC.region ?_
 refine WO.v (R.move rfl) rfl ?_
 refine WO.v (R.move rfl) rfl ?_
 refine WO.v (R.jK rfl rfl Try.underlying26 cg (dp (i:=0) (by omega)) (by omega)) rfl ?_
 refine WO.v (R.move rfl) rfl ?_
 refine WO.v (R.move rfl) rfl ?_
 refine WO.v (R.iA rfl rfl (by omega)) rfl ?_
 refine WO.v (R.move rfl) rfl ?_
 refine WO.v (R.GU rfl rfl (by omega) (by omega)) rfl ?_
 refine WO.v (happ _ _ _ _ rfl rfl) rfl ?_
 refine WO.v (R.assign rfl) rfl ?_
 refine WO.nil ?_
 refine WX.next ?_
 refine WC.seq ?_
 refine WC.region ?_
 refine WO.v (R.move rfl) rfl ?_
 refine WO.v (R.move rfl) rfl ?_
 refine WO.v (R.bZ rfl rfl Try.underlying26 cg (dp (by omega)) (by omega)) rfl ?_
 refine WO.v (R.move rfl) rfl ?_
 refine WO.v (R.ko rfl rfl Try.underlying26 cg hrow hn1 hv (by omega) h1v) rfl ?_
 refine WO.nil ?_
 refine WX.next ?_
 refine WC.seq ?_
 refine WC.nS gb [.ex [] (.slice (some ⟨b,0,none⟩) (n+1) G),.ex [] (.int .i64 ((i:Nat):Int)),.ex [] (.int .i64 ((1:Nat):Int)),.ex [1,2] (.int .i64 ((i+1:Nat):Int)),.ex [0,3] (.slice (some ⟨b,(i+1)*2,none⟩) (n+1 - (i+1)) (G - (i+1))),.ex [] (.slice (some ⟨g,0,none⟩) n c),.ex [] (.int .i64 ((i:Nat):Int)),.ex [5,6] (.slice (some ⟨g,i*2,none⟩) (n - i) (c - i))] 8 (by kernel_rfl) ⟨fun _ _ _ h _=>h,fun _ _ _ h _=>h,fun _ _ _ h _=>h,fun _ _ _ h _=>h,fun _ _ _ h _=>h,fun _ _ _ h _=>h,fun _ _ _ h _=>h,fun _ _ _ h _=>h,trivial⟩ ⟨?_,?_,?_,?_,?_,?_,?_,?_,trivial⟩ ?_
 ·rintro vs wd kd ⟨-⟩
  refine WO.bm (fr':=[(9,.slice (some ⟨b,0,none⟩) (n+1) G)]) ⟨⟨_,rfl,rfl⟩,trivial⟩ ?_
  refine WO.v (R.move rfl) rfl ?_
  refine WO.nil ?_
  exact WX.aH rfl rfl (Kp.refl _)
 ·rintro vs wd kd ⟨-⟩
  refine WO.bm (fr':=[(1,.int .i64 ((i:Nat):Int))]) ⟨⟨_,rfl,rfl⟩,trivial⟩ ?_
  refine WO.v (R.move rfl) rfl ?_
  refine WO.nil ?_
  exact WX.aH rfl rfl (Kp.refl _)
 ·rintro vs wd kd ⟨-⟩
  refine WO.bm (fr':=[(7,.int .i64 ((1:Nat):Int))]) ⟨⟨_,rfl,rfl⟩,trivial⟩ ?_
  refine WO.v (R.move rfl) rfl ?_
  refine WO.nil ?_
  exact WX.aH rfl rfl (Kp.refl _)
 ·rintro vs wd kd ⟨e1,e2,-⟩
  refine WO.bm (fr':=[(47,.int .i64 ((i:Nat):Int)),(48,.int .i64 ((1:Nat):Int))]) ⟨⟨_,rfl,e1⟩,⟨_,rfl,e2⟩,trivial⟩ ?_
  refine WO.v (R.iA rfl rfl (by omega)) rfl ?_
  refine WO.nil ?_
  exact WX.aH rfl rfl (Kp.refl _)
 ·rintro vs wd kd ⟨e0,e3,-⟩
  refine WO.bm (fr':=[(46,.slice (some ⟨b,0,none⟩) (n+1) G),(49,.int .i64 ((i+1:Nat):Int))]) ⟨⟨_,rfl,e0⟩,⟨_,rfl,e3⟩,trivial⟩ ?_
  refine WO.v (R.bZ rfl rfl Try.underlying26 cg (dp (by omega)) (by omega)) rfl ?_
  refine WO.nil ?_
  exact WX.aH rfl rfl (Kp.refl _)
 ·rintro vs wd kd ⟨-⟩
  refine WO.bm (fr':=[(0,.slice (some ⟨g,0,none⟩) n c)]) ⟨⟨_,rfl,rfl⟩,trivial⟩ ?_
  refine WO.v (R.move rfl) rfl ?_
  refine WO.nil ?_
  exact WX.aH rfl rfl (Kp.refl _)
 ·rintro vs wd kd ⟨-⟩
  refine WO.bm (fr':=[(1,.int .i64 ((i:Nat):Int))]) ⟨⟨_,rfl,rfl⟩,trivial⟩ ?_
  refine WO.v (R.move rfl) rfl ?_
  refine WO.nil ?_
  exact WX.aH rfl rfl (Kp.refl _)
 ·rintro vs wd kd ⟨e5,e6,-⟩
  refine WO.bm (fr':=[(51,.slice (some ⟨g,0,none⟩) n c),(52,.int .i64 ((i:Nat):Int))]) ⟨⟨_,rfl,e5⟩,⟨_,rfl,e6⟩,trivial⟩ ?_
  refine WO.v (R.bZ rfl rfl Try.underlying26 cg (dp (by omega)) (by omega)) rfl ?_
  refine WO.nil ?_
  exact WX.aH rfl rfl (Kp.refl _)
 rintro vsx w1 k1 ⟨-,-,-,-,e4,-,-,e7,-⟩
 replace k1:Kp [] (W1.setRow b (cur.take (i*2)++vs++cur.drop (i*2+vs.length)).toArray) w1:=k1
 refine WO.bm (fr':=[(50,.slice (some ⟨b,(i+1)*2,none⟩) (n+1 - (i+1)) (G - (i+1))),(53,.slice (some ⟨g,i*2,none⟩) (n - i) (c - i)),(9,.slice (some ⟨b,0,none⟩) (n+1) G)]) ⟨⟨_,rfl,e4⟩,⟨_,rfl,e7⟩,⟨_,rfl,rfl⟩,trivial⟩ ?_
 have hb2:w1.heap[b]? = some (.cells (List.toArray (cur.take (i*2)++vs++cur.drop (i*2+vs.length))) 48 (0,0)):=by rw [k1.block b (by simpa using aV hrow) (by simp)]; exact setRow_heap W1 b _ _ 48 _ hrow
 have hd2:CellsAt w1 ⟨g,i*2,none⟩ ds:=(hd.kp (Kp.setRow W1 b _) hgl (by simpa using hgb.symm)).kp k1 (by simpa using hgl) (by simp)
 refine WO.v (R.ko rfl rfl Try.underlying26 cg hb2 hn2 hd2 (by simp only [List.length_append,List.length_take,List.length_drop]; omega) h1d) rfl ?_
 refine WO.nil ?_
 refine WX.next ?_
 refine WC.seq ?_
 refine WC.region ?_
 refine WO.v (R.move rfl) rfl ?_
 refine WO.v (R.assign rfl) rfl ?_
 refine WO.nil ?_
 refine WX.next ?_
 refine WC.ret ?_
 refine WX.gE ?_
 refine WX.s_ rfl rfl ?_
 exact ⟨rfl,w1,k1,rfl⟩
set_option maxRecDepth 100000 in
set_option maxHeartbeats 1000000 in
theorem pb {w:World} {g n i c vc:Nat} {ad:Addr} {cur vs ds:List Value} {curA:Array Value} {tA:TypeId} {fA:Nat × Nat} (hi:i<n) (hc:n+1<=c) (hcm:c<=maxLen)
  (hrow:w.heap[g]? = some (.cells cur.toArray 48 (0,0))) (hcur:(n+1)*2<=cur.length) (hv:CellsAt w ad vs) (hvb:w.heap[ad.block]? = some (.cells curA tA fA)) (hvb0:curA.size≠0) (hne:ad.block≠g) (hvl:vs.length=2) (hd:CellsAt w ⟨g,i*2,none⟩ ds) (hdl:ds.length=(n - i)*2)
  (h1v:∀ u ∈ vs,u.oneCell' = true) (h1d:∀ u ∈ ds,u.oneCell' = true) :
  gH Try.prog 80 [.slice (some ⟨g,0,none⟩) n c,.int .i64 (i:Int),.slice (some ad) 1 vc].toArray w fun v w'=>v = .slice (some ⟨g,0,none⟩) (n+1) c/\∃ w1,Kp [] w w1/\w' = (w1.setRow g (cur.take ((i+1)*2)++ds++cur.drop ((i+1)*2+ds.length)).toArray).setRow g ((cur.take ((i+1)*2)++ds++cur.drop ((i+1)*2+ds.length)).take (i*2)++vs++(cur.take ((i+1)*2)++ds++cur.drop ((i+1)*2+ds.length)).drop (i*2+vs.length)).toArray:=by
 have hcm:c<=9223372036854775807:=hcm
 have hn1:vs.length=Nat.min 1 (n+1 - i)*2:=by rw [show Nat.min 1 (n+1 - i)=1 from Nat.min_eq_left (by omega),Nat.one_mul]; exact hvl
 have hn2:ds.length=Nat.min (n+1 - i) (n+1 - (i+1))*2:=by rw [show Nat.min (n+1 - i) (n+1 - (i+1))=n+1 - (i+1) from Nat.min_eq_right (by omega),hdl]; congr 1; omega
 refine gH.enter Try.func80 rfl rfl rfl rfl ?_
 refine WC.seq ?_
 refine WC.region ?_
 refine WO.v (R.assign rfl) rfl ?_
 refine WO.nil ?_
 refine WX.next ?_
 refine WC.seq ?_
 refine WC.region ?_
 refine WO.v (R.move rfl) rfl ?_
 refine WO.v (R.move rfl) rfl ?_
 refine WO.v (R.bZ rfl rfl Try.underlying26 cg rfl (by omega)) rfl ?_
 refine WO.nil ?_
 refine WX.next ?_
 refine WC.seq ?_
 refine WC.region ?_
 refine WO.v (R.move rfl) rfl ?_
 refine WO.v (R.len rfl Try.underlying26) rfl ?_
 refine WO.v (R.assign rfl) rfl ?_
 refine WO.nil ?_
 refine WX.next ?_
 refine WC.seq ?_
 refine WC.seq ?_
 refine WC.region ?_
 refine WO.v (R.move rfl) rfl ?_
 refine WO.v (R.eql rfl rfl) rfl ?_
 refine WO.nil ?_
 refine WX.next ?_
 refine WC.cond rfl (fun q=>absurd (of_decide_eq_true q) (by omega)) (fun _=>?_)
 refine WC.skip ?_
 refine WX.next ?_
 refine WC.seq ?_
 refine WC.region ?_
 refine WO.v (R.move rfl) rfl ?_
 refine WO.v (R.len rfl Try.underlying26) rfl ?_
 refine WO.v (R.assign rfl) rfl ?_
 refine WO.nil ?_
 refine WX.next ?_
 refine WC.seq ?_
 refine WC.seq ?_
 refine WC.region ?_
 refine WO.v (R.move rfl) rfl ?_
 refine WO.v (R.move rfl) rfl ?_
 refine WO.v (R.eql rfl rfl) rfl ?_
 refine WO.nil ?_
 refine WX.next ?_
 refine WC.cond rfl (fun q=>absurd (of_decide_eq_true q) (by omega)) (fun _=>?_)
 refine WC.skip ?_
 refine WX.next ?_
 refine WC.seq ?_
 refine WC.seq ?_
 refine WC.region ?_
 refine WO.v (R.move rfl) rfl ?_
 refine WO.v (R.move rfl) rfl ?_
 refine WO.v (R.iA rfl rfl (by omega)) rfl ?_
 refine WO.v (R.move rfl) rfl ?_
 refine WO.v (R.CV rfl Try.underlying26) rfl ?_
 refine WO.v (R.gtr rfl rfl) rfl ?_
 refine WO.nil ?_
 refine WX.next ?_
 refine WC.cond rfl (fun q=>absurd (of_decide_eq_true q) (by omega)) (fun _=>?_)
 refine WC.skip ?_
 refine WX.next ?_
 refine WC.seq ?_
 refine WC.region ?_
 refine WO.v (R.move rfl) rfl ?_
 refine WO.v (R.move rfl) rfl ?_
 refine WO.v (R.move rfl) rfl ?_
 refine WO.v (R.iA rfl rfl (by omega)) rfl ?_
 refine WO.v (R.jK rfl rfl Try.underlying26 cg (dp (i:=0) (by omega)) (by omega)) rfl ?_
 refine WO.v (R.assign rfl) rfl ?_
 refine WO.nil ?_
 refine WX.next ?_
 refine WC.seq ?_
 refine WC.seq ?_
 refine WC.region ?_
 refine WO.v (R.move rfl) rfl ?_
 refine WO.v (R.move rfl) rfl ?_
 refine WO.v (R.move rfl) rfl ?_
 refine WO.v (R.move rfl) rfl ?_
 refine WO.v (R.iA rfl rfl (by omega)) rfl ?_
 refine WO.v (R.bZ rfl rfl Try.underlying26 cg (dp (by omega)) (by omega)) rfl ?_
 refine WO.v (R.Im (tS:=26) (tR:=4) Try.func92 rfl rfl (by kernel_rfl) (by kernel_rfl) Try.underlying26 cg hne hvb hvb0 hrow rfl rfl) rfl ?_
 refine WO.v (R.not rfl) rfl ?_
 refine WO.nil ?_
 refine WX.next ?_
 refine WC.zw rfl ?_
 refine WC.seq ?_
 refine WC.nS gb [.ex [] (.slice (some ⟨g,0,none⟩) (n+1) c),.ex [] (.int .i64 ((i:Nat):Int)),.ex [] (.int .i64 ((1:Nat):Int)),.ex [1,2] (.int .i64 ((i+1:Nat):Int)),.ex [0,3] (.slice (some ⟨g,(i+1)*2,none⟩) (n+1 - (i+1)) (c - (i+1))),.ex [] (.slice (some ⟨g,0,none⟩) (n+1) c),.ex [] (.int .i64 ((i:Nat):Int)),.ex [5,6] (.slice (some ⟨g,i*2,none⟩) (n+1 - i) (c - i))] 8 (by kernel_rfl) ⟨fun _ _ _ h _=>h,fun _ _ _ h _=>h,fun _ _ _ h _=>h,fun _ _ _ h _=>h,fun _ _ _ h _=>h,fun _ _ _ h _=>h,fun _ _ _ h _=>h,fun _ _ _ h _=>h,trivial⟩ ⟨?_,?_,?_,?_,?_,?_,?_,?_,trivial⟩ ?_
 ·rintro vs wd kd ⟨-⟩
  refine WO.bm (fr':=[(0,.slice (some ⟨g,0,none⟩) (n+1) c)]) ⟨⟨_,rfl,rfl⟩,trivial⟩ ?_
  refine WO.v (R.move rfl) rfl ?_
  refine WO.nil ?_
  exact WX.aH rfl rfl (Kp.refl _)
 ·rintro vs wd kd ⟨-⟩
  refine WO.bm (fr':=[(1,.int .i64 ((i:Nat):Int))]) ⟨⟨_,rfl,rfl⟩,trivial⟩ ?_
  refine WO.v (R.move rfl) rfl ?_
  refine WO.nil ?_
  exact WX.aH rfl rfl (Kp.refl _)
 ·rintro vs wd kd ⟨-⟩
  refine WO.bm (fr':=[(7,.int .i64 ((1:Nat):Int))]) ⟨⟨_,rfl,rfl⟩,trivial⟩ ?_
  refine WO.v (R.move rfl) rfl ?_
  refine WO.nil ?_
  exact WX.aH rfl rfl (Kp.refl _)
 ·rintro vs wd kd ⟨e1,e2,-⟩
  refine WO.bm (fr':=[(70,.int .i64 ((i:Nat):Int)),(71,.int .i64 ((1:Nat):Int))]) ⟨⟨_,rfl,e1⟩,⟨_,rfl,e2⟩,trivial⟩ ?_
  refine WO.v (R.iA rfl rfl (by omega)) rfl ?_
  refine WO.nil ?_
  exact WX.aH rfl rfl (Kp.refl _)
 ·rintro vs wd kd ⟨e0,e3,-⟩
  refine WO.bm (fr':=[(69,.slice (some ⟨g,0,none⟩) (n+1) c),(72,.int .i64 ((i+1:Nat):Int))]) ⟨⟨_,rfl,e0⟩,⟨_,rfl,e3⟩,trivial⟩ ?_
  refine WO.v (R.bZ rfl rfl Try.underlying26 cg (dp (by omega)) (by omega)) rfl ?_
  refine WO.nil ?_
  exact WX.aH rfl rfl (Kp.refl _)
 ·rintro vs wd kd ⟨-⟩
  refine WO.bm (fr':=[(0,.slice (some ⟨g,0,none⟩) (n+1) c)]) ⟨⟨_,rfl,rfl⟩,trivial⟩ ?_
  refine WO.v (R.move rfl) rfl ?_
  refine WO.nil ?_
  exact WX.aH rfl rfl (Kp.refl _)
 ·rintro vs wd kd ⟨-⟩
  refine WO.bm (fr':=[(1,.int .i64 ((i:Nat):Int))]) ⟨⟨_,rfl,rfl⟩,trivial⟩ ?_
  refine WO.v (R.move rfl) rfl ?_
  refine WO.nil ?_
  exact WX.aH rfl rfl (Kp.refl _)
 ·rintro vs wd kd ⟨e5,e6,-⟩
  refine WO.bm (fr':=[(74,.slice (some ⟨g,0,none⟩) (n+1) c),(75,.int .i64 ((i:Nat):Int))]) ⟨⟨_,rfl,e5⟩,⟨_,rfl,e6⟩,trivial⟩ ?_
  refine WO.v (R.bZ rfl rfl Try.underlying26 cg (dp (by omega)) (by omega)) rfl ?_
  refine WO.nil ?_
  exact WX.aH rfl rfl (Kp.refl _)
 rintro vsx w1 k1 ⟨-,-,-,-,e4,-,-,e7,-⟩
 replace k1:Kp [] w w1:=k1
 refine WO.bm (fr':=[(73,.slice (some ⟨g,(i+1)*2,none⟩) (n+1 - (i+1)) (c - (i+1))),(76,.slice (some ⟨g,i*2,none⟩) (n+1 - i) (c - i)),(0,.slice (some ⟨g,0,none⟩) (n+1) c),(1,.int .i64 ((i:Nat):Int)),(2,.slice (some ad) 1 vc)]) ⟨⟨_,rfl,e4⟩,⟨_,rfl,e7⟩,⟨_,rfl,rfl⟩,⟨_,rfl,rfl⟩,⟨_,rfl,rfl⟩,trivial⟩ ?_
 have hg1:w1.heap[g]? = some (.cells (List.toArray cur) 48 (0,0)):=by rw [k1.block g (aV hrow) (by simp)]; exact hrow
 refine WO.v (R.ko rfl rfl Try.underlying26 cg hg1 hn2 (hd.kp k1 (aV hrow) (by simp)) (by omega) h1d) rfl ?_
 refine WO.nil ?_
 refine WX.next ?_
 have hg2:(w1.setRow g (cur.take ((i+1)*2)++ds++cur.drop ((i+1)*2+ds.length)).toArray).heap[g]? = some (.cells (List.toArray (cur.take ((i+1)*2)++ds++cur.drop ((i+1)*2+ds.length))) 48 (0,0)):=setRow_heap w1 g _ _ 48 _ hg1
 have hv2:CellsAt (w1.setRow g (cur.take ((i+1)*2)++ds++cur.drop ((i+1)*2+ds.length)).toArray) ad vs:=(hv.kp k1 (aV hvb) (by simp)).kp (Kp.setRow w1 g _) (Nat.lt_of_lt_of_le (aV hvb) k1.size) (by simpa using fun h=>hne h.symm)
 refine WC.seq ?_
 refine WC.region ?_
 refine WO.v (R.move rfl) rfl ?_
 refine WO.v (R.move rfl) rfl ?_
 refine WO.v (R.bZ rfl rfl Try.underlying26 cg (dp (by omega)) (by omega)) rfl ?_
 refine WO.v (R.move rfl) rfl ?_
 refine WO.v (R.ko rfl rfl Try.underlying26 cg hg2 hn1 hv2 (by simp only [List.length_append,List.length_take,List.length_drop]; omega) h1v) rfl ?_
 refine WO.nil ?_
 refine WX.next ?_
 refine WC.seq ?_
 refine WC.region ?_
 refine WO.v (R.move rfl) rfl ?_
 refine WO.v (R.assign rfl) rfl ?_
 refine WO.nil ?_
 refine WX.next ?_
 refine WC.ret ?_
 refine WX.gE ?_
 refine WX.s_ rfl rfl ?_
 exact ⟨rfl,w1,k1,rfl⟩
theorem tr {G:Gl} {ρ:List RE} {H:AH} {w:World} (hs:G.shp=au aJ) (hR:Rep G ρ H w) {l m:List (den (.nm .opn))} (hH:getO H 0 = .row 48 (.nm .opn) l) (hl:l.length<1048576) {i:Nat} (hi:i<=l.length) {v0:Value} (h0:Rd (cx G ρ w) ρ (.own 0) v0)
  {ad:Addr} {k:Nat} {cys:List Value} {bAV:AV} (hm:m.length=1) (hb:Rd (cx G ρ w) ρ bAV (.slice (some ad) 1 k)) (hbv:(bAV.vw H).e_ (.nm .opn)=some m) (hv:CellsAt w ad cys) (hvl:cys.length=2) (h1v:∀ u ∈ cys,u.oneCell' = true) (hp:Pds (cx G ρ w) (m.flatMap (cellsOf (.nm .opn))) cys)
  (hne:∀ g c n z,ρ[0]? = some (.row g c n z)->ad.block≠g) {curA:Array Value} {tA:TypeId} {fA:Nat × Nat} (hvb:w.heap[ad.block]? = some (.cells curA tA fA)) (hvb0:curA.size≠0) :
  gH Try.prog 80 [v0,.int .i64 (i:Int),.slice (some ad) 1 k].toArray w fun v w'=>∃ ρ',Stp (xa 0) ρ w ρ' w' /\ Rep G ρ' ((ez (AV.kill 0) H).set 0 (.row 48 (.nm .opn) (l.take i++m++l.drop i))) w' /\ Rd (cx G ρ' w') ρ' (.own 0) v:=by
 have hT:bg Try.prog G.shp aJ:=hs ▸ fY
 obtain ⟨hshp,hlen⟩:=cR hR hH
 have hl64:l.length<=9223372036854775807:=by omega
 have hin:((l.length:Nat):Int)<=9223372036854775807:=by omega
 by_cases hie:i=l.length
 ·subst hie
  have hc:∃ A c,v0 = .slice A l.length c:=by
   rcases h0 with ⟨g,cap,len,z,h1,rfl⟩ | ⟨h1,a,rfl⟩
   ·rcases bk hR hH with ⟨h2,_⟩ | ⟨g',cap',cells,sp,h2,_⟩
    ·rw [h1] at h2; cases h2
    ·rw [h1] at h2; cases h2; exact ⟨_,_,rfl⟩
   ·rcases bk hR hH with ⟨_,h2⟩ | ⟨g',cap',cells,sp,h2,_⟩
    ·subst h2; exact ⟨_,_,rfl⟩
    ·rw [h1] at h2; cases h2
  obtain ⟨A,c,rfl⟩:=hc
  refine sx fun F x y ty hx hy=>?_
  have happ:fC aJ (xa 0) ([]:AFr) H 26 (.own 0) bAV=some ⟨one (.own 0),[],(ez (AV.kill 0) H).set 0 (.row 48 (.nm .opn) (l++m)),[(l.length+m.length)*(Sh.nm NT.opn).bytes<=140737488355328],[]⟩:=by
   unfold fC
   rw [show bl aJ 26=some ⟨.sl 48 (some (.nm .opn)),1,[.em true]⟩ from by kernel_rfl]
   simp only [hbv,hH]
   rfl
  obtain ⟨v,w',h1,ρ',h2,h3,_,h5,_⟩:=fB (P:=Try.prog) (n:=95) (F:=[]) (ty:=ty) (fr:=[]) (x:=.const (.slice A l.length c)) (y:=.const (.slice (some ad) 1 k)) hT hR .nil happ (by
   intro p hp
   rw [List.mem_singleton] at hp; subst hp
   show (l.length+m.length)*16<=_
   omega) h0 hb rfl rfl
  refine ⟨v,w',R.uB h1 hx hy,ρ',h2,?_,h5⟩
  rw [List.take_length,List.drop_length,List.append_nil]
  exact h3
 ·have hlt:i<l.length:=by omega
  rcases bk hR hH with ⟨_,h2⟩ | ⟨g,cap,cells,sp,hρ,hg,hpd,hsz,hcap,hmax⟩
  ·subst h2; simp at hlt
  obtain ⟨hnb,hil,hiH⟩:=jS hR hH
  have hv0:v0 = .slice (some ⟨g,0,none⟩) l.length cap:=by
   rcases h0 with ⟨g',cap',len,z,h1,rfl⟩ | ⟨h1,a,rfl⟩
   ·rw [hρ] at h1; cases h1; rfl
   ·rw [hρ] at h1; cases h1
  subst hv0
  have hz:(Sh.nm NT.opn).size=2:=rfl
  have hby:(Sh.nm NT.opn).bytes=16:=rfl
  have hcl:cells.length=l.length*2:=by rw [<- hpd.length,bD,hz]
  rw [hz,List.length_append] at hsz
  have hone:∀ u ∈ cells.drop (i*2),u.oneCell' = true:=fun u hu=>hpd.xp u (List.mem_of_mem_drop hu)
  have hd:CellsAt w ⟨g,i*2,none⟩ (cells.drop (i*2)):=by
   have:=(bS hg).shift (i*2)
   rwa [add_lit,Nat.zero_add] at this
  have hdl:(cells.drop (i*2)).length=(l.length - i)*2:=by rw [List.length_drop,hcl]; omega
  have hgl:=aV hg
  have hzl:(l.take i++m++l.drop i).length=l.length+1:=by
   rw [List.length_append,List.length_append,List.length_take,List.length_drop,hm]; omega
  have hnew:∀ {c:Cx},(cx G ρ w).le c->Pds c ((l.take i++m++l.drop i).flatMap (cellsOf (.nm .opn))) (cells.take (i*2)++cys++cells.drop (i*2)):=fun {c} hle=>by
   rw [List.flatMap_append,List.flatMap_append]
   exact (((bz hpd i).append hp).append (bI hpd i)).carry hle
  have hnl:(cells.take (i*2)++cys++cells.drop (i*2)).length=(l.length+1)*2:=by
   rw [List.length_append,List.length_append,List.length_take,List.length_drop,hcl,hvl]; omega
  have hbig:(l.take i++m++l.drop i).length*(Sh.nm NT.opn).bytes<=140737488355328:=by rw [hzl,hby]; omega
  -- what is shown of any way
  have fin:∀ (S:List Nat) (g2 cap2:Nat) (sp2:List Value) (w':World),Kp S w w' -> (∀ b ∈ S,b=g)->(g2=g\/w.heap.size<=g2)->w'.heap[g2]? = some (.cells (List.toArray (cells.take (i*2)++cys++cells.drop (i*2)++sp2)) 48 (0,0))->(l.length+1)*2+sp2.length=cap2*2->l.length+1<=cap2->cap2<=maxLen ->
    ∃ ρ',Stp (xa 0) ρ w ρ' w' /\ Rep G ρ' ((ez (AV.kill 0) H).set 0 (.row 48 (.nm .opn) (l.take i++m++l.drop i))) w' /\ Rd (cx G ρ' w') ρ' (.own 0) (.slice (some ⟨g2,0,none⟩) (l.length+1) cap2):=by
   intro S g2 cap2 sp2 w' hk hS hg2 hh hlen2 hle2 hmax2
   obtain ⟨k1,k2,_⟩:=iU (ro:=xa 0) (s':=.nm .opn) (e':=48) (zs:=l.take i++m++l.drop i) hR hH ⟨rfl,rfl⟩ hk (fun b hb=>⟨_,hρ,by rw [hS b hb]; rfl⟩) (r':=.row g2 cap2 (l.take i++m++l.drop i).length (Sh.nm NT.opn).size) (fun b hb=>by
    cases hb
    rcases hg2 with rfl | hg2
    ·exact .inl ⟨_,hρ,rfl⟩
    ·exact .inr ⟨hg2,aV hh⟩) (fun hle=>⟨hshp,hbig,.inr ⟨g2,cap2,_,sp2,rfl,hh,hnew hle,by rw [List.length_append,hnl,hz]; exact hlen2,by rw [hzl]; exact hle2,hmax2⟩⟩)
   exact ⟨_,k1,k2,.inl ⟨g2,cap2,_,_,List.getElem?_set_self hil,by rw [hzl]⟩⟩
  have eo:(i+1)*2=i*2+2:=by omega
  by_cases hroom:l.length+1<=cap
  ·refine (pb hlt hroom hmax hg (by rw [List.length_append]; omega) hv hvb hvb0 (hne _ _ _ _ hρ) hvl hd hdl h1v hone).mono fun v w' ⟨e1,w1,k1,e2⟩=>?_
   subst e1; subst e2
   rw [eo,Dz (by omega) hvl]
   have hk:Kp [g] w ((w1.setRow g ((cells++sp).take (i*2+2)++cells.drop (i*2)++(cells++sp).drop (i*2+2+(cells.drop (i*2)).length)).toArray).setRow g (cells.take (i*2)++cys++cells.drop (i*2)++sp.drop 2).toArray):=((k1.sub (by simp)).step (Kp.setRow w1 g _) (by simp)).step (Kp.setRow _ g _) (by simp)
   have hg1:w1.heap[g]? = some (.cells (List.toArray (cells++sp)) 48 (0,0)):=by rw [k1.block g hgl (by simp)]; exact hg
   exact fin [g] g cap (sp.drop 2) _ hk (by simp) (.inl rfl) (setRow_heap _ g _ _ 48 _ (setRow_heap w1 g _ _ 48 _ hg1)) (by rw [List.length_drop]; omega) hroom hmax
  ·obtain ⟨ti,hi0,hz0,hz1,hz2⟩:=info_parts tQ
   have eik:i+(l.length+1 - i)=l.length+1:=by omega
   have hge:=grownCap_ge w (l.length+1) cap 48
   have hgm:=grownCap_le_maxLen w (l.length+1) cap 48 (by simp [maxLen]; omega)
   have hold:(Builtin.firstCells ti.size i (.slice (some ⟨g,0*2,none⟩) i cap)).run Try.prog w.drew = .ok (cells.take (i*2)).toArray w.drew:=by
    have h:=run_loadCells_list (P:=Try.prog) w.drew ⟨g,0*2,none⟩ (cells.take (i*2)) (by rw [Nat.zero_mul]; exact (bS hg).take _)
    rw [List.length_take,Nat.min_eq_left (by omega)] at h
    rw [hz1]; exact h
   have happ:∀ (F:Fr) (x y:Operand) (ty:TypeId),ev F x=some (.slice (some ⟨g,0*2,none⟩) i cap)->ev F y=some (.int .i64 ((l.length+1 - i:Nat):Int))->aL Try.prog 95 F w (.call { callee:=.builtin .append,args:=#[x,y],argTypes:=#[26,3] }) ty (.slice (some ⟨w.heap.size,0,none⟩) (l.length+1) (grownCap w (l.length+1) cap 48)) (w.drew.alloc (.cells (List.toArray (cells.take (i*2)++((Builtin.zeroCells (Value.agg #[.int .i64 0,.int .i64 0]).cells (l.length+1 - i)).toList++(Builtin.zeroCells (Value.agg #[.int .i64 0,.int .i64 0]).cells (grownCap w (l.length+1) cap 48 - (l.length+1))).toList))) 48)):=fun F x y ty hx hy=>by
    have h:=R.GW (P:=Try.prog) (n:=95) (ty:=ty) hx hy Try.underlying26 Try.underlying3 hi0 hz0 hold (by omega) (by rw [hz1]; decide) (by omega) (by omega) (by rw [hz2]; omega) (by rw [hz2,eik]; exact growslice_fits (by omega) (by omega))
    rw [eik] at h
    have e:∀ (a:List Value) (b c:Array Value),a.toArray++b++c=(a++(b.toList++c.toList)).toArray:=fun a b c=>by apply Array.ext'; simp
    rw [e] at h
    exact h
   have hcurl:(cells.take (i*2)++((Builtin.zeroCells (Value.agg #[.int .i64 0,.int .i64 0]).cells (l.length+1 - i)).toList++(Builtin.zeroCells (Value.agg #[.int .i64 0,.int .i64 0]).cells (grownCap w (l.length+1) cap 48 - (l.length+1))).toList)).length=grownCap w (l.length+1) cap 48*2:=by
    rw [List.length_append,List.length_append,List.length_take,lZ,lZ]
    show min _ _+((l.length+1 - i)*2+(grownCap w (l.length+1) cap 48 - (l.length+1))*2)=_
    omega
   have htk:(cells.take (i*2)++((Builtin.zeroCells (Value.agg #[.int .i64 0,.int .i64 0]).cells (l.length+1 - i)).toList++(Builtin.zeroCells (Value.agg #[.int .i64 0,.int .i64 0]).cells (grownCap w (l.length+1) cap 48 - (l.length+1))).toList)).take (i*2)=cells.take (i*2):=List.take_left' (by rw [List.length_take]; omega)
   generalize grownCap w (l.length+1) cap 48=GC at *
   generalize cells.take (i*2)++((Builtin.zeroCells (Value.agg #[.int .i64 0,.int .i64 0]).cells (l.length+1 - i)).toList++(Builtin.zeroCells (Value.agg #[.int .i64 0,.int .i64 0]).cells (GC - (l.length+1))).toList)=cur at *
   have hK1:Kp [] w (w.drew.alloc (.cells (List.toArray cur) 48)):=((Kp.refl w).drew).step (Kp.alloc w.drew _) (by simp)
   have hrow:(w.drew.alloc (.cells (List.toArray cur) 48)).heap[w.heap.size]? = some (.cells (List.toArray cur) 48 (0,0)):=heap_alloc_new w.drew _
   generalize w.drew.alloc (.cells (List.toArray cur) 48)=W1 at *
   refine (qB hlt hcap (by omega) hmax hge hgm happ hrow (by omega) (hv.kp hK1 (aV hvb) (by simp)) hvl (hd.kp hK1 hgl (by simp)) (by omega) (Nat.lt_of_lt_of_le hgl hK1.size) hdl h1v hone).mono fun v w' ⟨e1,w1,k1,e2⟩=>?_
   subst e1; subst e2
   rw [eo,Du (cells:=cells) (by omega) hvl htk]
   have hs1:∀ b ∈ [w.heap.size],b ∈ ([]:List Nat)\/w.heap.size<=b:=fun b hb=>.inr (by rw [List.mem_singleton] at hb; omega)
   have hk:Kp [] w (w1.setRow w.heap.size (cells.take (i*2)++cys++cells.drop (i*2)++cur.drop (i*2+2+(cells.drop (i*2)).length)).toArray):=((hK1.step (Kp.setRow W1 w.heap.size _) hs1).step k1 (by simp)).step (Kp.setRow w1 w.heap.size _) hs1
   have hg1:=(k1.block w.heap.size (by simpa using aV hrow) (by simp)).trans (setRow_heap W1 w.heap.size _ (cur.take (i*2)++cys++cur.drop (i*2+cys.length)).toArray 48 _ hrow)
   exact fin [] w.heap.size GC _ _ hk (by simp) (.inr (Nat.le_refl _)) (setRow_heap w1 w.heap.size _ _ 48 _ hg1) (by rw [List.length_drop]; omega) hge hgm
theorem pC (i:Int) (l m:List (den (.nm .opn))) (h:0<=i/\i<=(l.length:Int)) (hl:l.length<1048576) (hm:m.length=1):Sat Try.prog (au aJ) 80 [.c (.own 0),.c (.int i),.c (.fz (.nm .opn) m)] [.row 48 (.nm .opn) l] ⟨[0<=i/\i<=(l.length:Int),l.length<1048576,m.length=1],[.c (.own 0)],some [.row 48 (.nm .opn) (l.take i.toNat++m++l.drop i.toNat)],false⟩:=by
 refine ⟨⟨_,Try.func80,by decide,rfl⟩,fun G ρ w vs hs hR hvs=>?_⟩
 obtain ⟨i,rfl⟩:=Int.eq_ofNat_of_zero_le h.1
 cases hvs with | cons h0 hvs=>
 cases hvs with | cons h1 hvs=>
 cases hvs with | cons h2 hvs=>
 cases hvs
 have h1:Pd (cx G ρ w) (.int (i:Int)) _:=h1
 cases h1
 have h0:Rd (cx G ρ w) ρ (.own 0) _:=h0
 have h2:Rd (cx G ρ w) ρ (.fz (.nm .opn) m) _:=h2
 have hH:getO [AO.row 48 (.nm .opn) l] 0 = .row 48 (.nm .opn) l:=rfl
 have hbv:(AV.vw [AO.row 48 (.nm .opn) l] (.fz (.nm .opn) m)).e_ (.nm .opn)=some m:=by simp [AV.vw,AV.e_,getO]
 obtain ⟨A,k,cys,rfl,s1,s2,s3,s4⟩:=mD hR hbv h2
 rw [hm] at h2 s1 s3
 rw [hm]
 obtain ⟨ad,rfl,s5⟩:∃ ad,A=some ad/\CellsAt w ad cys:=s3.resolve_left (by decide)
 have hz:(Sh.nm NT.opn).size=2:=rfl
 rw [hz] at s1
 obtain ⟨u,hu⟩:∃ u,cys[0]? = some u:=⟨_,List.getElem?_eq_getElem (by omega)⟩
 obtain ⟨cur,t,f,hc,hc0⟩:=nA (s5 0 u hu)
 have hne:∀ g c n z,ρ[0]? = some (.row g c n z)->ad.block≠g:=fun g c n z hg e=>by
  have h2:Pd (cx G ρ w) (.fz (.nm .opn) m) (.slice (some ad) 1 k):=h2
  have h3:=Eb h2 (by rw [hm]; decide)
  exact h3.1.2.1 ⟨0,_,hg,by rw [e]; rfl⟩
 rw [fj] at hc
 refine (tr hs hR hH hl (by omega) h0 hm h2 hbv s5 s1 s2 s4 hne hc hc0).mono fun v w' ⟨ρ',k1,k2,k3⟩=>?_
 exact ⟨[v],rfl,ρ',k2,k1.ext,k1.bx,.cons k3 .nil,fun hb=>by cases hb⟩
theorem yP:(Builtin.zeroCells (Value.agg #[.int .i64 0,.int .i64 0]).cells 1).toList=[.int .i64 0,.int .i64 0]:=by kernel_rfl
set_option maxRecDepth 100000 in
set_option maxHeartbeats 1000000 in
theorem Aq {w:World} {g n i c:Nat} {cur ds:List Value} {ti:TypeInfo} (hi:i<n) (hnc:n<=c) (hcm:c<=maxLen) (hg:w.heap[g]? = some (.cells cur.toArray 48 (0,0))) (hcur:n*2<=cur.length) (hdl:ds.length=(n - (i+1))*2) (hd:CellsAt w (if c=i+1 then ⟨g,0,none⟩ else (⟨g,0,none⟩:Addr).add ((i+1)*2)) ds) (h1d:∀ u ∈ ds,u.oneCell' = true)
  (hi0:Try.prog.info? 48=some ti) (hz0:ti.zero=some (.agg #[.int .i64 0,.int .i64 0])) (hz1:ti.size=2) :
  gH Try.prog 83 [.slice (some ⟨g,0,none⟩) n c,.int .i64 (i:Int),.int .i64 ((i+1:Nat):Int)].toArray w fun v w'=>v = .slice (some ⟨g,0,none⟩) (i+(n - (i+1))) c/\∃ w1,Kp [] w w1/\w' = (w1.setRow g (cur.take (i*ti.size)++ds++cur.drop (i*ti.size+ds.length)).toArray).setRow g ((cur.take (i*ti.size)++ds++cur.drop (i*ti.size+ds.length)).take ((i+(n - (i+1)))*2)++(Builtin.zeroCells (Value.agg #[.int .i64 0,.int .i64 0]).cells 1).toList++(cur.take (i*ti.size)++ds++cur.drop (i*ti.size+ds.length)).drop ((i+(n - (i+1)))*2+(Builtin.zeroCells (Value.agg #[.int .i64 0,.int .i64 0]).cells 1).toList.length)).toArray:=by
 have hcm:c<=9223372036854775807:=hcm
 refine gH.enter Try.func83 rfl rfl rfl rfl ?_
 refine WC.seq ?_
 refine WC.region ?_
 refine WO.v (R.assign rfl) rfl ?_
 refine WO.nil ?_
 refine WX.next ?_
 refine WC.seq ?_
 refine WC.region ?_
 refine WO.v (R.move rfl) rfl ?_
 refine WO.v (R.move rfl) rfl ?_
 refine WO.v (R.move rfl) rfl ?_
 refine WO.v (R.move rfl) rfl ?_
 refine WO.v (R.len rfl Try.underlying26) rfl ?_
 refine WO.v (R.slice3 rfl rfl rfl rfl Try.underlying26 cg (by omega) (by omega) (by omega)) rfl ?_
 refine WO.nil ?_
 refine WX.next ?_
 refine WC.seq ?_
 refine WC.seq ?_
 refine WC.region ?_
 refine WO.v (R.move rfl) rfl ?_
 refine WO.v (R.move rfl) rfl ?_
 refine WO.v (R.eql rfl rfl) rfl ?_
 refine WO.nil ?_
 refine WX.next ?_
 refine WC.cond rfl (fun q=>absurd (of_decide_eq_true q) (by omega)) (fun _=>?_)
 refine WC.skip ?_
 refine WX.next ?_
 refine WC.seq ?_
 refine WC.region ?_
 refine WO.v (R.move rfl) rfl ?_
 refine WO.v (R.len rfl Try.underlying26) rfl ?_
 refine WO.v (R.assign rfl) rfl ?_
 refine WO.nil ?_
 refine WX.next ?_
 refine WC.seq ?_
 refine WC.nS gb [.ex [] (.slice (some ⟨g,0,none⟩) n c),.ex [] (.int .i64 ((i:Nat):Int)),.ex [0,1] (.slice (some ⟨g,0*2,none⟩) (i - 0) (c - 0)),.ex [] (.slice (some ⟨g,0,none⟩) n c),.ex [] (.int .i64 ((i+1:Nat):Int)),.ex [3,4] (.slice (some (if c=i+1 then ⟨g,0,none⟩ else (⟨g,0,none⟩:Addr).add ((i+1)*2))) (n - (i+1)) (c - (i+1)))] 6 (by kernel_rfl) ⟨fun _ _ _ h _=>h,fun _ _ _ h _=>h,fun _ _ _ h _=>h,fun _ _ _ h _=>h,fun _ _ _ h _=>h,fun _ _ _ h _=>h,trivial⟩ ⟨?_,?_,?_,?_,?_,?_,trivial⟩ ?_
 ·rintro vs wd kd ⟨-⟩
  refine WO.bm (fr':=[(0,.slice (some ⟨g,0,none⟩) n c)]) ⟨⟨_,rfl,rfl⟩,trivial⟩ ?_
  refine WO.v (R.move rfl) rfl ?_
  refine WO.nil ?_
  exact WX.aH rfl rfl (Kp.refl _)
 ·rintro vs wd kd ⟨-⟩
  refine WO.bm (fr':=[(1,.int .i64 ((i:Nat):Int))]) ⟨⟨_,rfl,rfl⟩,trivial⟩ ?_
  refine WO.v (R.move rfl) rfl ?_
  refine WO.nil ?_
  exact WX.aH rfl rfl (Kp.refl _)
 ·rintro vs wd kd ⟨e0,e1,-⟩
  refine WO.bm (fr':=[(20,.slice (some ⟨g,0,none⟩) n c),(21,.int .i64 ((i:Nat):Int))]) ⟨⟨_,rfl,e0⟩,⟨_,rfl,e1⟩,trivial⟩ ?_
  refine WO.v (R.jK rfl rfl Try.underlying26 cg (dp (i:=0) (by omega)) (by omega)) rfl ?_
  refine WO.nil ?_
  exact WX.aH rfl rfl (Kp.refl _)
 ·rintro vs wd kd ⟨-⟩
  refine WO.bm (fr':=[(0,.slice (some ⟨g,0,none⟩) n c)]) ⟨⟨_,rfl,rfl⟩,trivial⟩ ?_
  refine WO.v (R.move rfl) rfl ?_
  refine WO.nil ?_
  exact WX.aH rfl rfl (Kp.refl _)
 ·rintro vs wd kd ⟨-⟩
  refine WO.bm (fr':=[(2,.int .i64 ((i+1:Nat):Int))]) ⟨⟨_,rfl,rfl⟩,trivial⟩ ?_
  refine WO.v (R.move rfl) rfl ?_
  refine WO.nil ?_
  exact WX.aH rfl rfl (Kp.refl _)
 ·rintro vs wd kd ⟨e3,e4,-⟩
  refine WO.bm (fr':=[(23,.slice (some ⟨g,0,none⟩) n c),(24,.int .i64 ((i+1:Nat):Int))]) ⟨⟨_,rfl,e3⟩,⟨_,rfl,e4⟩,trivial⟩ ?_
  refine WO.v (R.bZ rfl rfl Try.underlying26 cg El (by omega)) rfl ?_
  refine WO.nil ?_
  exact WX.aH rfl rfl (Kp.refl _)
 rintro vsx w1 k1 ⟨-,-,e2,-,-,e5,-⟩
 replace k1:Kp [] w w1:=k1
 refine WO.bm (fr':=[(22,.slice (some ⟨g,0*2,none⟩) (i - 0) (c - 0)),(25,.slice (some (if c=i+1 then ⟨g,0,none⟩ else (⟨g,0,none⟩:Addr).add ((i+1)*2))) (n - (i+1)) (c - (i+1))),(7,.int .i64 ((n:Nat):Int))]) ⟨⟨_,rfl,e2⟩,⟨_,rfl,e5⟩,⟨_,rfl,rfl⟩,trivial⟩ ?_
 have hg1:w1.heap[g]? = some (.cells (List.toArray cur) 48 (0,0)):=by rw [k1.block g (aV hg) (by simp)]; exact hg
 have hd1:CellsAt w1 (if c=i+1 then ⟨g,0,none⟩ else (⟨g,0,none⟩:Addr).add ((i+1)*2)) ds:=hd.keep (k1.block _ (by split <;> exact aV hg) (by simp))
 refine WO.v (R.CB (sl:=i) (sc:=c) rfl rfl Try.underlying26 hi0 hg1 (by rw [hz1]; exact hdl) hd1 h1d (by omega) (by rw [hz1]; omega)) rfl ?_
 refine WO.v (R.assign rfl) rfl ?_
 refine WO.nil ?_
 refine WX.next ?_
 have hg2:=setRow_heap w1 g _ (cur.take (i*ti.size)++ds++cur.drop (i*ti.size+ds.length)).toArray 48 _ hg1
 refine WC.seq ?_
 refine WC.region ?_
 refine WO.v (R.move rfl) rfl ?_
 refine WO.v (R.move rfl) rfl ?_
 refine WO.v (R.len rfl Try.underlying26) rfl ?_
 refine WO.v (R.move rfl) rfl ?_
 refine WO.v (R.uA rfl rfl rfl Try.underlying26 cg (dp (by omega)) (by omega) (by omega)) rfl ?_
 refine WO.v0 (R.It rfl (by omega) Try.underlying26 hi0 hz0 (by rw [yP]; simp [Value.oneCell']) hg2 (by rw [lZ,hz1]; simp only [List.length_append,List.length_take,List.length_drop]; show _+1*2<=_; omega)) ?_
 refine WO.nil ?_
 refine WX.next ?_
 refine WC.seq ?_
 refine WC.region ?_
 refine WO.v (R.move rfl) rfl ?_
 refine WO.v (R.assign rfl) rfl ?_
 refine WO.nil ?_
 refine WX.next ?_
 refine WC.ret ?_
 refine WX.s_ rfl rfl ?_
 exact ⟨rfl,w1,k1,rfl⟩
theorem pL (i j:Int) (l:List (den (.nm .opn))) (h:0<=i/\i<(l.length:Int)/\j=i+1):Sat Try.prog (au aJ) 83 [.c (.own 0),.c (.int i),.c (.int j)] [.row 48 (.nm .opn) l] ⟨[0<=i/\i<(l.length:Int)/\j=i+1],[.c (.own 0)],some [.row 48 (.nm .opn) (l.take i.toNat++l.drop j.toNat)],false⟩:=by
 refine ⟨⟨_,Try.func83,by decide,rfl⟩,fun G ρ w vs hs hR hvs=>?_⟩
 obtain ⟨hi0,hi1,rfl⟩:=h
 obtain ⟨i,rfl⟩:=Int.eq_ofNat_of_zero_le hi0
 have hlt:i<l.length:=by omega
 cases hvs with | cons h0 hvs=>
 cases hvs with | cons h1 hvs=>
 cases hvs with | cons h2 hvs=>
 cases hvs
 have h1:Pd (cx G ρ w) (.int (i:Int)) _:=h1
 have h2:Pd (cx G ρ w) (.int ((i:Int)+1)) _:=h2
 cases h1
 cases h2
 have h0:Rd (cx G ρ w) ρ (.own 0) _:=h0
 have hH:getO [AO.row 48 (.nm .opn) l] 0 = .row 48 (.nm .opn) l:=rfl
 obtain ⟨hshp,hlen⟩:=cR hR hH
 rcases bk hR hH with ⟨_,h2⟩ | ⟨g,cap,cells,sp,hρ,hg,hpd,hsz,hcap,hmax⟩
 ·subst h2; simp at hlt
 obtain ⟨hnb,hil,hiH⟩:=jS hR hH
 have hz:(Sh.nm NT.opn).size=2:=rfl
 have hby:(Sh.nm NT.opn).bytes=16:=rfl
 have hcl:cells.length=l.length*2:=by rw [<- hpd.length,bD,hz]
 rw [hz,List.length_append] at hsz
 rw [hby] at hlen
 obtain ⟨ti,hi0,hz0,hz1,hz2⟩:=info_parts tQ
 have hone:∀ u ∈ cells.drop ((i+1)*2),u.oneCell' = true:=fun u hu=>hpd.xp u (List.mem_of_mem_drop hu)
 have hd:CellsAt w (if cap=i+1 then ⟨g,0,none⟩ else (⟨g,0,none⟩:Addr).add ((i+1)*2)) (cells.drop ((i+1)*2)):=by
  split
  ·rw [List.drop_of_length_le (by omega)]; exact CellsAt.nil
  ·exact (bS hg).shift _
 have hv0:∀ v,Rd (cx G ρ w) ρ (.own 0) v->v = .slice (some ⟨g,0,none⟩) l.length cap:=fun v h0=>by
  rcases h0 with ⟨g',cap',len,z,h1,rfl⟩ | ⟨h1,a,rfl⟩
  ·rw [hρ] at h1; cases h1; rfl
  ·rw [hρ] at h1; cases h1
 obtain rfl:=hv0 _ h0
 have e0:((i:Int)+1)=((i+1:Nat):Int):=by omega
 rw [e0]
 refine (Aq hlt hcap hmax hg (by rw [List.length_append]; omega) (by rw [List.length_drop,hcl]; omega) hd hone hi0 hz0 hz1).mono fun v w' ⟨e1,w1,k1,e2⟩=>?_
 subst e1
 have hq:i+(l.length - (i+1))=l.length - 1:=by omega
 rw [hq,hz1,yP] at e2
 rw [hq]
 have hzl:(l.take i++l.drop (i+1)).length=l.length - 1:=by rw [List.length_append,List.length_take,List.length_drop]; omega
 have hnl:(cells.take (i*2)++cells.drop ((i+1)*2)).length=(l.length - 1)*2:=by rw [List.length_append,List.length_take,List.length_drop]; omega
 have htk:((cells++sp).take (i*2)++cells.drop ((i+1)*2)++(cells++sp).drop (i*2+(cells.drop ((i+1)*2)).length)).take ((l.length - 1)*2)=cells.take (i*2)++cells.drop ((i+1)*2):=by
  rw [List.take_append_of_le_length (l₁:=cells) (by omega)]
  exact List.take_left' hnl
 have hr1l:((cells++sp).take (i*2)++cells.drop ((i+1)*2)++(cells++sp).drop (i*2+(cells.drop ((i+1)*2)).length)).length=cap*2:=by
  simp only [List.length_append,List.length_drop,List.length_take]
  omega
 generalize (cells++sp).take (i*2)++cells.drop ((i+1)*2)++(cells++sp).drop (i*2+(cells.drop ((i+1)*2)).length)=r1 at e2 htk hr1l
 rw [htk,List.append_assoc] at e2
 generalize hsp2:([.int .i64 0,.int .i64 0]:List Value)++List.drop ((l.length - 1)*2+([.int .i64 0,.int .i64 0]:List Value).length) r1=sp2 at e2
 have hlen2:(l.length - 1)*2+sp2.length=cap*2:=by
  rw [<- hsp2]
  simp only [List.length_append,List.length_cons,List.length_nil,List.length_drop]
  omega
 have hg1:w1.heap[g]? = some (.cells (List.toArray (cells++sp)) 48 (0,0)):=by rw [k1.block g (aV hg) (by simp)]; exact hg
 have hh:=setRow_heap _ g _ (cells.take (i*2)++cells.drop ((i+1)*2)++sp2).toArray 48 _ (setRow_heap w1 g _ r1.toArray 48 _ hg1)
 have hk:=((k1.sub (T:=[g]) (by simp)).step (Kp.setRow w1 g r1.toArray) (by simp)).step (Kp.setRow _ g (cells.take (i*2)++cells.drop ((i+1)*2)++sp2).toArray) (by simp)
 subst e2
 obtain ⟨k2,k3,_⟩:=iU (ro:=xa 0) (s':=.nm .opn) (e':=48) (zs:=l.take i++l.drop (i+1)) hR hH ⟨rfl,rfl⟩ hk (fun b hb=>⟨_,hρ,by rw [List.mem_singleton] at hb; subst hb; rfl⟩) (r':=.row g cap (l.take i++l.drop (i+1)).length (Sh.nm NT.opn).size) (fun b hb=>by
  cases hb; exact .inl ⟨_,hρ,rfl⟩) (fun hle=>⟨hshp,by rw [hzl,hby]; omega,.inr ⟨g,cap,_,sp2,rfl,hh,by
   rw [List.flatMap_append]; exact ((bz hpd i).append (bI hpd (i+1))).carry hle,by rw [List.length_append,hnl,hz]; exact hlen2,by omega,hmax⟩⟩)
 exact ⟨[_],rfl,_,k3,k2.ext,k2.bx,.cons (.inl ⟨g,cap,_,_,List.getElem?_set_self hil,by rw [hzl]⟩) .nil,fun hb=>by cases hb⟩
end Go.Proofs.Ytdggohppeeaipaa
namespace Go.Proofs.Ytdggohppeeaipaa
open Go.RowKit
def qh {β:Type} (z:β) (k:Int):List (Int × β)->β
 | []=>z
 | p :: r=>if k=p.1 then p.2 else qh z k r
end Go.Proofs.Ytdggohppeeaipaa
namespace Go.Proofs.Ytdggohppeeaipaa
open Go.RowKit
theorem aF {α:Type} {l:List α} {k:Nat} {x:α} (hx:l[k]? = some x):l.take (k+1)=l.take k++[x]:=by
 rw [List.take_add_one,hx]; rfl
end Go.Proofs.Ytdggohppeeaipaa
namespace Go.Proofs.Ytdggohppeeaipaa
open Go.RowKit
end Go.Proofs.Ytdggohppeeaipaa
namespace Go.Proofs.Ytdggohppeeaipaa
open Go.RowKit
theorem tq {α:Type} [DecidableEq α] {l m:List α} (h:¬ ((l.length:Nat):Int)=((m.length:Nat):Int)):false=decide (l=m):=by
 symm; apply decide_eq_false; rintro rfl; exact h rfl
theorem lP {α:Type} [DecidableEq α] {l m:List α} {k:Nat} (hl:l.length=m.length) (h:l.take k=m.take k) (hk:l.length<=k):true=decide (l=m):=by
 symm; apply decide_eq_true
 rwa [List.take_of_length_le hk,List.take_of_length_le (by omega)] at h
def cw (n a b:Int):Bool:=decide (a<=n) && decide (n<=b)
def ak {α:Type} (key:α->Int) (most:Int):Int->List α->Bool
 | _,[]=>true
 | a,x :: r=>cw (key x) (a+1) most && ak key most (key x) r
def bp {α:Type} (key:α->Int) (a:Int) (l:List α):Int:=l.foldl (fun _ x=>key x) a
theorem ga {α:Type} {key:α->Int} {most:Int} {x:α}:∀ (p:List α) (a:Int),ak key most a (p++[x])=(ak key most a p && cw (key x) (bp key a p+1) most)
 | [],a=>by simp [ak,bp]
 | y :: p,a=>by
  rw [List.cons_append,ak,ak,ga p,Bool.and_assoc]; rfl
theorem gL {α:Type} {key:α->Int} {most:Int} (q:List α):∀ (p:List α) (a:Int),ak key most a (p++q)=true->ak key most a p=true
 | [],a,_=>rfl
 | y :: p,a,h=>by
  rw [List.cons_append,ak,Bool.and_eq_true] at h
  rw [ak,Bool.and_eq_true]
  exact ⟨h.1,gL q p _ h.2⟩
theorem bP {α:Type} {key:α->Int} {a:Int} {l:List α} {k:Nat} {x:α} (hx:l[k]? = some x):key x=bp key a (l.take (k+1)):=by
 rw [aF hx,bp,List.foldl_append]; rfl
theorem jW {α:Type} {key:α->Int} {most a:Int} {l:List α} {k:Nat} {x:α} (h:ak key most a (l.take k)=true) (hx:l[k]? = some x) (h1:bp key a (l.take k)<key x) (h2:key x<=most):ak key most a (l.take (k+1))=true:=by
 rw [aF hx,ga,h,Bool.true_and,cw,Bool.and_eq_true,decide_eq_true_eq,decide_eq_true_eq]
 exact ⟨by omega,h2⟩
theorem j_ {α:Type} {key:α->Int} {most a:Int} {l:List α} {k:Nat} {x:α} (hx:l[k]? = some x) (h:¬ (bp key a (l.take k)<key x/\key x<=most)):ak key most a l=false:=by
 cases hr:ak key most a l with
 | false=>rfl
 | true=>
  have h1:=gL (l.drop (k+1)) (l.take (k+1)) a (by rw [List.take_append_drop]; exact hr)
  rw [aF hx,ga,Bool.and_eq_true,cw,Bool.and_eq_true,decide_eq_true_eq,decide_eq_true_eq] at h1
  exact absurd ⟨by omega,h1.2.2⟩ h
theorem kn {α:Type} {key:α->Int} {most a:Int} {l:List α} {k:Nat} (h:ak key most a (l.take k)=true) (hk:l.length<=k):ak key most a l=true:=by
 rwa [List.take_of_length_le hk] at h
def dz (l:List Int):Bool:=(decide ((1:Int)<=((l.length:Nat):Int)) && decide (((l.length:Nat):Int)<=8)) && ak id 64 0 l
theorem jQ {l:List Int} {k:Nat} {x:Int} (hx:l[k]? = some x) (h:¬ (bp id 0 (l.take k)<x/\x<=64)):false=dz l:=by
 rw [dz,j_ (key:=id) hx h,Bool.and_false]
theorem gW {l:List Int} {k:Nat} (h:ak id 64 0 (l.take k)=true) (hk:l.length<=k) (hl:1<=l.length/\l.length<=8):true=dz l:=by
 rw [dz,kn h hk,Bool.and_true]; symm; rw [Bool.and_eq_true,decide_eq_true_eq,decide_eq_true_eq]; omega
theorem mo {l:List Int} (hl:¬ (1<=l.length/\l.length<=8)):false=dz l:=by
 symm
 rw [dz,Bool.and_eq_false_iff]; left
 rw [Bool.and_eq_false_iff,decide_eq_false_iff_not,decide_eq_false_iff_not]; omega
end Go.Proofs.Ytdggohppeeaipaa
namespace Go.Proofs.Ytdggohppeeaipaa
open Go.RowKit
def bF (x:Sess):Bool:=(cw x.seq 0 1048576 && cw x.last.code 0 99) && cw x.last.n 0 1048576
def bO (x:Opn):Bool:=cw x.client 1 8
theorem du {α:Type} {p:α->Bool} {l:List α} {k:Nat} {x:α} (h:(l.take k).all p=true) (hx:l[k]? = some x) (hp:p x=true):(l.take (k+1)).all p=true:=by
 rw [aF hx,List.all_append,h]; simp [hp]
theorem yl {α:Type} {p:α->Bool} {l:List α} {k:Nat} {x:α} (hx:l[k]? = some x) (hp:p x=false):l.all p=false:=by
 rw [List.all_eq_false]; exact ⟨x,List.mem_of_getElem? hx,by simp [hp]⟩
theorem yF {α:Type} {p:α->Bool} {l:List α} {k:Nat} (h:(l.take k).all p=true) (hk:l.length<=k):l.all p=true:=by
 rwa [List.take_of_length_le hk] at h
end Go.Proofs.Ytdggohppeeaipaa
namespace Go.Proofs.Ytdggohppeeaipaa
open Go.RowKit
def aT (n:Nat):Nat:=if h:n<128 then 1 else aT (n / 128)+1
termination_by n
decreasing_by omega
theorem mb {n:Nat} (h:¬ n<128):aT n=aT (n / 128)+1:=by rw [aT,dif_neg h]
theorem g_ {n:Nat} (h:n<128):aT n=1:=by rw [aT,dif_pos h]
theorem gD (n:Nat):1<=aT n:=by rw [aT]; split <;> omega
theorem rT:∀ (k n:Nat),n<128 ^ (k+1)->aT n<=k+1
 | 0,n,h=>by rw [g_ (by simpa using h)]; omega
 | k+1,n,h=>by
  by_cases hn:n<128
  ·rw [g_ hn]; omega
  ·rw [mb hn]
   have:=rT k (n / 128) (by rw [Nat.div_lt_iff_lt_mul (by omega),<- Nat.pow_succ]; exact h)
   omega
theorem kU {n:Nat} (h:n<18446744073709551616):aT n<=10:=rT 9 n (Nat.lt_of_lt_of_le h (by decide))
def Bq (n i:Nat):UInt8:=UInt8.ofNat (n / 128 ^ i) ||| 128
def dv (n k:Nat):List UInt8:=(List.range k).map (Bq n)++List.replicate (aT n - k) 0
def lT (n:Nat):List UInt8:=(dv n (aT n)).set (aT n - 1) (Bq n (aT n - 1) &&& 127)
theorem eZ {n k:Nat} (h:k<=aT n):(dv n k).length=aT n:=by simp [dv]; omega
theorem tf {n k:Nat} (h:k<aT n):(dv n k).set k (Bq n k)=dv n (k+1):=by
 unfold dv
 rw [List.set_append_right _ _ (by simp),List.range_succ,List.map_append,List.append_assoc]
 congr 1
 obtain ⟨j,hj⟩:∃ j,aT n - k=j+1:=⟨aT n - k - 1,by omega⟩
 rw [hj,show aT n - (k+1)=j by omega]
 simp [List.replicate_succ]
theorem gR (n:Nat):List.replicate (aT n) (0:UInt8)=dv n 0:=by simp [dv]
theorem td {n:Nat} {x:UInt8} (h:(dv n (aT n))[aT n - 1]? = some x):x=Bq n (aT n - 1):=by
 have hp:=gD n
 unfold dv at h
 rw [List.getElem?_append_left (by simp; omega)] at h
 simp only [List.getElem?_map,List.getElem?_range (show aT n - 1<aT n by omega),Option.map_some,Option.some.injEq] at h
 exact h.symm
theorem div_pow {n k:Nat}:n / 128 ^ k / 2 ^ 7=n / 128 ^ (k+1):=by show n / 128 ^ k / 128=_; rw [Nat.div_div_eq_div_mul,Nat.pow_succ]
theorem AT (n:Nat):(lT n).length=aT n:=by rw [lT,List.length_set,eZ (Nat.le_refl _)]
theorem mI {n:Nat} (h:n<18446744073709551616):(lT n).length<=10:=by rw [AT]; exact kU h
def ee (l:List Int):List UInt8:=l.flatMap fun x=>lT x.toNat
theorem jz {l:List Int} {k:Nat} {x:Int} (hx:l[k]? = some x):ee (l.take k)++lT x.toNat=ee (l.take (k+1)):=by
 rw [aF hx]; simp [ee]
theorem yo {l:List Int} (h:∀ x ∈ l,x<=64):(ee l).length<=10*l.length:=by
 induction l with
 | nil=>simp [ee]
 | cons a l ih=>
  have h1:=ih fun x hx=>h x (List.mem_cons_of_mem _ hx)
  have h2:=mI (n:=a.toNat) (by have:=h a (by simp); omega)
  simp only [ee,List.flatMap_cons,List.length_append,List.length_cons] at *
  omega
theorem sD {l:List Int} (h:dz l=true):∀ x ∈ l,0<x/\x<=64:=by
 rw [dz,Bool.and_eq_true] at h
 have:∀ (l:List Int) (a:Int),0<=a->ak id 64 a l=true->∀ x ∈ l,0<x/\x<=64:=by
  intro l
  induction l with
  | nil=>intro a _ _ x hx; cases hx
  | cons y l ih=>
   intro a ha hl x hx
   rw [ak,Bool.and_eq_true,cw,Bool.and_eq_true,decide_eq_true_eq,decide_eq_true_eq] at hl
   have h1:a+1<=y:=hl.1.1
   have h2:y<=64:=hl.1.2
   rcases List.mem_cons.1 hx with rfl | hx
   ·omega
   ·exact ih (id y) (by show 0<=y; omega) hl.2 x hx
 exact this l 0 (by omega) h.2
theorem oP {l:List Int} (h:dz l=true):1<=l.length/\l.length<=8:=by
 rw [dz,Bool.and_eq_true,Bool.and_eq_true,decide_eq_true_eq,decide_eq_true_eq] at h
 omega
def fD (l:List Int):List UInt8:=if dz l then ee l else []
def de (l:List Int):Int:=if dz l then 0 else 1
theorem kW {l:List Int} {k:Nat} (hr:dz l=true) (hk:l.length<=k):ee (l.take k)=fD l:=by rw [List.take_of_length_le hk,fD,if_pos hr]
theorem ji {l:List Int} (hr:dz l=false):[]=fD l:=by rw [fD,hr]; rfl
theorem eI {l:List Int} (hr:dz l=true):0=de l:=by rw [de,hr]; rfl
theorem fF {l:List Int} (hr:dz l=false):1=de l:=by rw [de,hr]; rfl
end Go.Proofs.Ytdggohppeeaipaa
namespace Go.Proofs.Ytdggohppeeaipaa
open Go.RowKit
def bj (v t:Int) (x:Snap):Bool:=((decide (de x.chunks=0) && cw x.set 1 8) && (!x.held || decide (2<=v))) && decide (((x.tag.b.length:Nat):Int)<=t)
def dE (v:Int):Int:=if v<3 then 0 else 16
def dw (s:State) (v:Int):Bool:=!(decide (16<((s.snaps.length:Nat):Int)) || !(ak Snap.id (s.next - 1) 0 s.snaps)) && s.snaps.all (bj v (dE v))
def cY (s:State) (v:Int):Bool:=((cw s.version 1 3 && cw s.next 1 1048576) && cw s.keep 0 8) && cw s.quota 0 (if v<3 then 0 else 64)
def mO (s:State):Bool:=ak Sess.client 8 0 s.sess && s.sess.all bF
def jn (s:State):Bool:=ak Opn.set 8 0 s.opens && s.opens.all bO
def mayF (s:State) (v:Int):Int:=if !(cw v 1 3) then 1 else if (((!cY s v || !mO s) || !jn s) || !dw s v) then 6 else 0
end Go.Proofs.Ytdggohppeeaipaa
namespace Go.Proofs.Ytdggohppeeaipaa
open Go.RowKit
end Go.Proofs.Ytdggohppeeaipaa
namespace Go.Proofs.Ytdggohppeeaipaa
open Go.RowKit
end Go.Proofs.Ytdggohppeeaipaa
namespace Go.Proofs.Ytdggohppeeaipaa
open Go.RowKit
end Go.Proofs.Ytdggohppeeaipaa
namespace Go.Proofs.Ytdggohppeeaipaa
open Go.RowKit
def fI (k:Int):Int:=qh 0 k [((1:Int),(1:Int)),((2:Int),(1:Int)),((3:Int),(1:Int)),((4:Int),(1:Int)),((5:Int),(1:Int)),((6:Int),(1:Int)),((7:Int),(1:Int)),((8:Int),(1:Int)),((9:Int),(2:Int)),((10:Int),(2:Int)),((11:Int),(3:Int)),((12:Int),(3:Int))]
theorem oR {n a b:Int} (h:cw n a b=true):a<=n/\n<=b:=by unfold cw at h; rw [Bool.and_eq_true,decide_eq_true_eq,decide_eq_true_eq] at h; exact h
theorem Iw {n a b:Int} (h:cw n a b=false):¬ (a<=n/\n<=b):=fun h2=>by
 have:cw n a b=true:=by unfold cw; rw [Bool.and_eq_true,decide_eq_true_eq,decide_eq_true_eq]; exact h2
 rw [h] at this; cases this
def hX (c:Command):Command:={ c with chunks:=c.chunks.take 12,text:=c.text.cut 0 40 }
def fi (x:Int) (l:List Int):Int:=match l.findIdx? (fun y=>decide (x=y)) with | some i=>(i:Int) | none=>-1
theorem yJ {x y:Int} {l:List Int} {k:Nat} (h:∀ j y,j<k->l[j]? = some y->¬ x=y) (hy:l[k]? = some y) (hxy:x=y):(k:Int)=fi x l:=by
 have:l.findIdx? (fun y=>decide (x=y))=some k:=by
  obtain ⟨hk,rfl⟩:=List.getElem?_eq_some_iff.1 hy
  rw [List.findIdx?_eq_some_iff_getElem]
  exact ⟨hk,decide_eq_true hxy,fun j hj=>by simpa using h j _ hj (List.getElem?_eq_getElem (by omega))⟩
 simp [fi,this]
theorem ug (x:Int) (l:List Int):decide (0<=fi x l)=l.contains x:=by
 unfold fi
 cases h:l.findIdx? (fun y=>decide (x=y)) with
 | none=>
  rw [List.findIdx?_eq_none_iff] at h
  have:l.contains x=false:=by
   rw [<- Bool.not_eq_true,List.contains_iff_mem]
   intro hm; have:=h x hm; simp at this
  rw [this]; rfl
 | some i=>
  rw [List.findIdx?_eq_some_iff_getElem] at h
  obtain ⟨hi,hp,_⟩:=h
  have:l.contains x=true:=by
   rw [List.contains_iff_mem,of_decide_eq_true hp]; exact List.getElem_mem hi
  rw [this]; simp
def fQ (n most:Int) (named:Bool):Bool:=if named then (decide (1<=n) && decide (n<=most)) else decide (n=0)
def lN (k:Int):Int × Int:=qh (0,0) k [((6:Int),((0:Int),(8:Int))),((8:Int),((2:Int),(3:Int))),((12:Int),((0:Int),(64:Int)))]
def Hg (c:Command):Bool:=if c.kind=3 then dz c.chunks else decide (((c.chunks.length:Nat):Int)=0)
def Ht (c:Command):Bool:=if c.kind=11 then decide (((c.text.b.length:Nat):Int)<=16) else decide (c.text=⟨[]⟩)
def ea (c:Command):Bool:=((((((((decide ((lN c.kind).1<=c.n) && decide (c.n<=(lN c.kind).2)) && Hg c) && Ht c) && fQ c.client 8 (!([(8:Int)].contains c.kind))) && fQ c.seq 1048576 (!([(1:Int),8].contains c.kind))) && fQ c.set 8 ([(2:Int),3,4].contains c.kind)) && fQ c.id 1048576 ([(5:Int),7,9,10,11].contains c.kind)))
def bM (c:Command) (v:Int):Int:=if !(cw v 1 3) || decide (fI c.kind=0) then 1 else if v<fI c.kind then 10 else if !ea c then 1 else 0
end Go.Proofs.Ytdggohppeeaipaa
namespace Go.Proofs.Ytdggohppeeaipaa
open Go.RowKit
end Go.Proofs.Ytdggohppeeaipaa
namespace Go.Proofs.Ytdggohppeeaipaa
open Go.RowKit
end Go.Proofs.Ytdggohppeeaipaa
namespace Go.Proofs.Ytdggohppeeaipaa
open Go.RowKit
def jh (k:Int):Bool:=decide (1<=k) && decide (k<=3)
theorem tX {α:Type} {a b:List α} {k:Nat} {d:α} (h:a.take k=b.take k) (ha:k<a.length) (hb:k<b.length) (e:a.getD k d=b.getD k d):a.take (k+1)=b.take (k+1):=by
 have h1:a[k]? = some (a.getD k d):=by rw [List.getD_eq_getElem?_getD,List.getElem?_eq_getElem ha]; rfl
 have h2:b[k]? = some (b.getD k d):=by rw [List.getD_eq_getElem?_getD,List.getElem?_eq_getElem hb]; rfl
 rw [aF h1,aF h2,h,e]
theorem zu {s:Str} {n:Nat} (h:(s.b.length:Int)<=n):s=⟨s.b.take n⟩:=by
 cases s; rw [List.take_of_length_le (by simpa using h)]
theorem En {l:List Int} {k:Nat} {x:Int} (hx:l[k]? = some x):x=bp id 0 (l.take (k+1)):=bP (key:=id) hx
theorem xA {l:List Int} {k:Nat} {x:Int} (h:ak id 64 0 (l.take k)=true) (hx:l[k]? = some x) (h1:bp id 0 (l.take k)<x) (h2:x<=64):ak id 64 0 (l.take (k+1))=true:=jW (key:=id) h hx (by dsimp only [id]; omega) (by dsimp only [id]; omega)
def GI (l:List Int):List (Nat × LI):=[(5,{ σ:=Nat,F:=fun k=>([(3,one (.int (bp id 0 (l.take k)))),(14,one (.fz .int (l))),(15,one (.int (l).length)),(16,one (.int k))],[]),J:=fun k=>k<=l.length/\ak id 64 0 (l.take k)=true/\1<=l.length/\l.length<=8,μ:=fun k=>(l).length - k })]
def Di (a:List Int) (b:List Int):List (Nat × LI):=[(4,{ σ:=Nat,F:=fun k=>([(0,one (.fz .int (a))),(1,one (.fz .int (b))),(5,one (.int k))],[]),J:=fun k=>k<=a.length/\a.length=b.length/\a.take k=b.take k,μ:=fun k=>a.length - k })]
theorem Cb (k:Int) (r0:Bool):dq aJ ku [] Try.f46 [.c (.int (k))] [] [.c (.bool (.atom (r0)))]=(I64 k->(decide ((1:Int)<=k) && decide (k<=(3:Int)))=r0):=by kernel_rfl
theorem Bj (k:Int):Sat Try.prog (au aJ) 46 [.c (.int (k))] [] ⟨[],[.c (.bool (.atom ((jh k))))],none,false⟩:=by
 refine aU dx [] Try.func46 (by decide) (by kernel_rfl) ?_
 rw [Cb]
 grind [jh]
theorem Gg (l:List Int) (r0:Bool):dq aJ ku (GI l) Try.f76 [.c (.fz .int (l))] [] [.c (.bool (.atom (r0)))]=((fun (q3:Int)=>(fun (q2:Int)=>(fun (q1:Nat)=>(fun (q0:Prop)=>l.length*(8:Nat)<=(140737488355328:Nat)->(q3<(1:Int)\/(8:Int)<q3->false=r0)/\((1:Int)<=q3/\q3<=(8:Int)->∃ (s0:Nat),(q2=bp id q2 (List.take s0 l)/\l=l/\q3=(↑q1:Int)/\q2=(↑s0:Int))/\(s0<=q1/\ak id (64:Int) q2 (List.take s0 l)=true/\q0)/\∀ (s:Nat),s<=q1/\ak id (64:Int) q2 (List.take s l)=true/\q0->((↑s:Int)<(↑q1:Int)->q2<=(↑s:Int)/\(↑s:Int)<q3/\∀ (x:Int),l[s]? = some x->I64 x->(x<=bp id q2 (List.take s l)\/(64:Int)<x->false=r0)/\(bp id q2 (List.take s l)<x/\x<=(64:Int)->I64 ((↑s:Int)+(1:Int))/\∃ (s':Nat),(x=bp id q2 (List.take s' l)/\l=l/\(↑q1:Int)=(↑q1:Int)/\(↑s:Int)+(1:Int)=(↑s':Int))/\(s' <= q1/\ak id (64:Int) q2 (List.take s' l)=true/\q0)/\q1 - s' < q1 - s))/\((↑q1:Int)<=(↑s:Int)->true=r0))) ((1:Nat)<=q1/\q1<=(8:Nat))) l.length) (0:Int)) (↑l.length:Int)):=by kernel_rfl
theorem GZ (l:List Int):Sat Try.prog (au aJ) 76 [.c (.fz .int (l))] [] ⟨[],[.c (.bool (.atom ((dz l))))],none,false⟩:=by
 refine aU dx (GI l) Try.func76 (by decide) (by kernel_rfl) ?_
 rw [Gg]
 (repeat' (first | refine And.intro ?_ ?_ | intro))
 all_goals try (grind [mo,jQ,gW,En,xA,ak,bp])
 all_goals (refine ⟨0,?_⟩; (repeat' (first | refine And.intro ?_ ?_ | intro)))
 all_goals try (grind [mo,jQ,gW,En,xA,ak,bp])
 all_goals (refine ⟨‹Nat› + 1,?_⟩; (repeat' (first | refine And.intro ?_ ?_ | intro)))
 all_goals grind [mo,jQ,gW,En,xA,ak,bp]
theorem Fi (a:List Int) (b:List Int) (r0:Bool):dq aJ ku (Di a b) Try.f35 [.c (.fz .int (a)),.c (.fz .int (b))] [] [.c (.bool (.atom (r0)))]=((fun (q1:Nat)=>(fun (q0:Int)=>a.length*(8:Nat)<=(140737488355328:Nat)->b.length*(8:Nat)<=(140737488355328:Nat)->(¬q0=(↑b.length:Int)->false=r0)/\(q0=(↑b.length:Int)->∃ (s0:Nat),(a=a/\b=b/\(0:Int)=(↑s0:Int))/\(s0<=q1/\q1=b.length/\List.take s0 a=List.take s0 b)/\∀ (s:Nat),(fun (q2:Prop)=>s<=q1/\q1=b.length/\List.take s a=List.take s b->((↑s:Int)<q0->(0:Int)<=(↑s:Int)/\(↑s:Int)<q0/\(0:Int)<=(↑s:Int)/\(↑s:Int)<(↑b.length:Int)/\(I64 (a.getD s (dflt Sh.int))->I64 (b.getD s (dflt Sh.int))->(¬q2->false=r0)/\(q2->I64 ((↑s:Int)+(1:Int))/\∃ (s':Nat),(a=a/\b=b/\(↑s:Int)+(1:Int)=(↑s':Int))/\(s' <= q1/\q1=b.length/\List.take s' a=List.take s' b)/\q1 - s' < q1 - s)))/\(q0<=(↑s:Int)->true=r0)) (a.getD s (dflt Sh.int)=b.getD s (dflt Sh.int)))) (↑a.length:Int)) a.length):=by kernel_rfl
theorem Ed (a:List Int) (b:List Int):Sat Try.prog (au aJ) 35 [.c (.fz .int (a)),.c (.fz .int (b))] [] ⟨[],[.c (.bool (.atom ((decide (a=b)))))],none,false⟩:=by
 refine aU dx (Di a b) Try.func35 (by decide) (by kernel_rfl) ?_
 rw [Fi]
 (repeat' (first | refine And.intro ?_ ?_ | intro))
 all_goals try (grind [aF])
 all_goals (refine ⟨0,?_⟩; (repeat' (first | refine And.intro ?_ ?_ | intro)))
 all_goals try (grind [aF])
 all_goals (refine ⟨‹Nat› + 1,?_⟩; (repeat' (first | refine And.intro ?_ ?_ | intro)))
 all_goals first | exact tX (by grind) (by omega) (by omega) (by with_reducible assumption) | grind
theorem ED (x:Int) (r0:Int):dq aJ ku [] Try.f45 [.c (.int (x))] [] [.c (.int (r0))]=((fun (q0:Option (den Sh.int))=>I64 x->((fun (j:Int)=>if j=(12:Int) then some (3:Int) else (fun (j:Int)=>if j=(11:Int) then some (3:Int) else (fun (j:Int)=>if j=(10:Int) then some (2:Int) else (fun (j:Int)=>if j=(9:Int) then some (2:Int) else (fun (j:Int)=>if j=(8:Int) then q0 else (fun (j:Int)=>if j=(7:Int) then q0 else (fun (j:Int)=>if j=(6:Int) then q0 else (fun (j:Int)=>if j=(5:Int) then q0 else (fun (j:Int)=>if j=(4:Int) then q0 else (fun (j:Int)=>if j=(3:Int) then q0 else (fun (j:Int)=>if j=(2:Int) then q0 else (fun (j:Int)=>if j=(1:Int) then q0 else (fun (_:Int)=>none) j) j) j) j) j) j) j) j) j) j) j) j) x).getD (dflt Sh.int)=r0) (some (1:Int))):=by kernel_rfl
theorem Eh (x:Int):Sat Try.prog (au aJ) 45 [.c (.int (x))] [] ⟨[],[.c (.int ((fI x)))],none,false⟩:=by
 refine aU dx [] Try.func45 (by decide) (by kernel_rfl) ?_
 rw [ED]
 intro _
 simp only [fI,qh]
 by_cases h:1<=x/\x<=12
 ·have h2:x=1\/x=2\/x=3\/x=4\/x=5\/x=6\/x=7\/x=8\/x=9\/x=10\/x=11\/x=12:=by omega
  rcases h2 with rfl | rfl | rfl | rfl | rfl | rfl | rfl | rfl | rfl | rfl | rfl | rfl <;> rfl
 ·have h1:¬ x=1:=by omega
  have h2:¬ x=2:=by omega
  have h3:¬ x=3:=by omega
  have h4:¬ x=4:=by omega
  have h5:¬ x=5:=by omega
  have h6:¬ x=6:=by omega
  have h7:¬ x=7:=by omega
  have h8:¬ x=8:=by omega
  have h9:¬ x=9:=by omega
  have h10:¬ x=10:=by omega
  have h11:¬ x=11:=by omega
  have h12:¬ x=12:=by omega
  simp [h1,h2,h3,h4,h5,h6,h7,h8,h9,h10,h11,h12,dflt]
theorem GA (s:Span) (k:Int) (r0:Bool):dq aJ ku [] Try.f75 [.agg (cellsOf (.nm .span) s),.c (.int (k))] [] [.c (.bool (.atom (r0)))]=(I64 s.lo->I64 s.hi->I64 k->(decide (s.lo<=k) && decide (k<=s.hi))=r0):=by kernel_rfl
theorem Gj (s:Span) (k:Int):Sat Try.prog (au aJ) 75 [.agg (cellsOf (.nm .span) s),.c (.int (k))] [] ⟨[],[.c (.bool (.atom ((decide (s.lo<=k) && decide (k<=s.hi)))))],none,false⟩:=by
 refine aU dx [] Try.func75 (by decide) (by kernel_rfl) ?_
 rw [GA]
 grind
theorem yQ (n:Int) (a:Int) (b:Int) (r0:Bool):dq aJ ku [] Try.f36 [.c (.int (n)),.c (.int (a)),.c (.int (b))] [] [.c (.bool (.atom (r0)))]=(I64 n->I64 a->I64 b->(decide (a<=n) && decide (n<=b))=r0):=by kernel_rfl
theorem yp (n:Int) (a:Int) (b:Int):Sat Try.prog (au aJ) 36 [.c (.int (n)),.c (.int (a)),.c (.int (b))] [] ⟨[],[.c (.bool (.atom ((cw n a b))))],none,false⟩:=by
 refine aU dx [] Try.func36 (by decide) (by kernel_rfl) ?_
 rw [yQ]
 grind [cw]
theorem sV (x:Sess) (r0:Int):dq aJ ku [] Try.f31 [.agg (cellsOf (.nm .sess) x)] [] [.c (.int (r0))]=(I64 x.client->I64 x.seq->I64 x.last.code->I64 x.last.n->x.client=r0):=by kernel_rfl
theorem tg (x:Sess):Sat Try.prog (au aJ) 31 [.agg (cellsOf (.nm .sess) x)] [] ⟨[],[.c (.int ((x.client)))],none,false⟩:=by
 refine aU dx [] Try.func31 (by decide) (by kernel_rfl) ?_
 rw [sV]
 grind
theorem CY (x:Opn) (r0:Int):dq aJ ku [] Try.f41 [.agg (cellsOf (.nm .opn) x)] [] [.c (.int (r0))]=(I64 x.set->I64 x.client->x.set=r0):=by kernel_rfl
theorem Br (x:Opn):Sat Try.prog (au aJ) 41 [.agg (cellsOf (.nm .opn) x)] [] ⟨[],[.c (.int ((x.set)))],none,false⟩:=by
 refine aU dx [] Try.func41 (by decide) (by kernel_rfl) ?_
 rw [CY]
 grind
theorem Em (x:Snap) (r0:Int):dq aJ ku [] Try.f68 [.agg (cellsOf (.nm .snap) x)] [] [.c (.int (r0))]=(I64 x.id->I64 x.set->x.chunks.length*(8:Nat)<=(140737488355328:Nat)->x.tag.b.length<=(140737488355328:Nat)->x.id=r0):=by kernel_rfl
theorem Ep (x:Snap):Sat Try.prog (au aJ) 68 [.agg (cellsOf (.nm .snap) x)] [] ⟨[],[.c (.int ((x.id)))],none,false⟩:=by
 refine aU dx [] Try.func68 (by decide) (by kernel_rfl) ?_
 rw [Em]
 grind
theorem vO (e:Int) (r0:Reply):dq aJ ku [] Try.f23 [.c (.int (e))] [] [.agg (cellsOf (.nm .reply) r0)]=(I64 e->e=r0.code/\(0:Int)=r0.n):=by kernel_rfl
theorem wP (e:Int):Sat Try.prog (au aJ) 23 [.c (.int (e))] [] ⟨[],[.agg (cellsOf (.nm .reply) (⟨e,0⟩))],none,false⟩:=by
 refine aU dx [] Try.func23 (by decide) (by kernel_rfl) ?_
 rw [vO]
 grind
def yK:cJ:=(bW 23 (bQ (aj (kC cI) aP) aO fun (e,_) (_)=>⟨[],[.agg (cellsOf (.nm .reply) (⟨e,0⟩))],none,false⟩) (bW 68 (bQ (aj (kT (.nm .snap)) aP) aO fun (x,_) (_)=>⟨[],[.c (.int ((x.id)))],none,false⟩) (bW 41 (bQ (aj (kT (.nm .opn)) aP) aO fun (x,_) (_)=>⟨[],[.c (.int ((x.set)))],none,false⟩) (bW 31 (bQ (aj (kT (.nm .sess)) aP) aO fun (x,_) (_)=>⟨[],[.c (.int ((x.client)))],none,false⟩) (bW 36 (bQ (aj (kC cI) (aj (kC cI) (aj (kC cI) aP))) aO fun (n,a,b,_) (_)=>⟨[],[.c (.bool (.atom ((cw n a b))))],none,false⟩) (bW 75 (bQ (aj (kT (.nm .span)) (aj (kC cI) aP)) aO fun (s,k,_) (_)=>⟨[],[.c (.bool (.atom ((decide (s.lo<=k) && decide (k<=s.hi)))))],none,false⟩) (bW 45 (bQ (aj (kC cI) aP) aO fun (x,_) (_)=>⟨[],[.c (.int ((fI x)))],none,false⟩) (bW 35 (bQ (aj (kC (cL .int)) (aj (kC (cL .int)) aP)) aO fun (a,b,_) (_)=>⟨[],[.c (.bool (.atom ((decide (a=b)))))],none,false⟩) (bW 76 (bQ (aj (kC (cL .int)) aP) aO fun (l,_) (_)=>⟨[],[.c (.bool (.atom ((dz l))))],none,false⟩) (bW 46 (bQ (aj (kC cI) aP) aO fun (k,_) (_)=>⟨[],[.c (.bool (.atom ((jh k))))],none,false⟩) ku))))))))))
theorem kH:aR Try.prog (au aJ) yK:=(aC (aB (ae (aw ax) ao) aq fun (e,_) (_) _=>wP e ) (aC (aB (ae bN ao) aq fun (x,_) (_) _=>Ep x ) (aC (aB (ae bN ao) aq fun (x,_) (_) _=>Br x ) (aC (aB (ae bN ao) aq fun (x,_) (_) _=>tg x ) (aC (aB (ae (aw ax) (ae (aw ax) (ae (aw ax) ao))) aq fun (n,a,b,_) (_) _=>yp n a b ) (aC (aB (ae bN (ae (aw ax) ao)) aq fun (s,k,_) (_) _=>Gj s k ) (aC (aB (ae (aw ax) ao) aq fun (x,_) (_) _=>Eh x ) (aC (aB (ae (aw bR) (ae (aw bR) ao)) aq fun (a,b,_) (_) _=>Ed a b ) (aC (aB (ae (aw bR) ao) aq fun (l,_) (_) _=>GZ l ) (aC (aB (ae (aw ax) ao) aq fun (k,_) (_) _=>Bj k ) dx))))))))))
end Go.Proofs.Ytdggohppeeaipaa
namespace Go.Proofs.Ytdggohppeeaipaa
open Go.RowKit
theorem al {n:Int} (h1:-9223372036854775808<=n) (h2:n<=9223372036854775807):I64 n:=⟨h1,h2⟩
def ag {α:Type} (key:α->Int) (want:Int) (l:List α):Int:=match l.findIdx? (fun x=>decide (key x=want)) with
 | some i=>(i:Int)
 | none=>-1
section
variable {α:Type} {key:α->Int} {want:Int} {l:List α} {k:Nat} {x:α}
theorem gQ:ag key want l = -1↔∀ x ∈ l,¬ key x=want:=by
 unfold ag
 cases h:l.findIdx? (fun x=>decide (key x=want)) with
 | none=>simpa using h
 | some i=>
  rw [List.findIdx?_eq_some_iff_getElem] at h
  obtain ⟨h1,h2,_⟩:=h
  simp only [decide_eq_true_eq] at h2
  constructor
  ·intro h; dsimp only at h; omega
  ·intro h; exact absurd h2 (h _ (List.getElem_mem h1))
theorem c_:ag key want (l.take 0) = -1:=rfl
theorem cD (h:ag key want (l.take k) = -1) (hx:l[k]? = some x) (hn:¬ key x=want):ag key want (l.take (k+1)) = -1:=by
 rw [gQ] at h ⊢
 rw [aF hx]
 intro y hy
 rcases List.mem_append.1 hy with hy | hy
 ·exact h y hy
 ·rw [List.mem_singleton] at hy; subst hy; exact hn
theorem cE (h:ag key want (l.take k) = -1) (hk:l.length<=k):-1=ag key want l:=by
 rw [List.take_of_length_le hk] at h; exact h.symm
theorem cd (h:ag key want (l.take k) = -1) (hx:l[k]? = some x) (he:key x=want):(k:Int)=ag key want l:=by
 have:l.findIdx? (fun x=>decide (key x=want))=some k:=by
  rw [gQ] at h
  obtain ⟨hk,rfl⟩:=List.getElem?_eq_some_iff.1 hx
  rw [List.findIdx?_eq_some_iff_getElem]
  refine ⟨hk,decide_eq_true he,fun j hj=>?_⟩
  have:=h l[j] (by rw [List.mem_take_iff_getElem]; exact ⟨j,by omega,rfl⟩)
  simpa using this
 rw [ag,this]
end
def ly (l:List Sess) (want:Int):List (Nat × LI):=[(2,{ σ:=Nat,F:=fun k=>([(1,one (.int (want))),(2,one (.fn 31 [] [])),(9,one (.fz (.nm .sess) (l))),(10,one (.int (l).length)),(11,one (.int k))],[]),J:=fun k=>k<=l.length/\ag Sess.client want (l.take k) = -1,μ:=fun k=>(l).length - k })]
def mz (l:List Opn) (want:Int):List (Nat × LI):=[(2,{ σ:=Nat,F:=fun k=>([(1,one (.int (want))),(2,one (.fn 41 [] [])),(9,one (.fz (.nm .opn) (l))),(10,one (.int (l).length)),(11,one (.int k))],[]),J:=fun k=>k<=l.length/\ag Opn.set want (l.take k) = -1,μ:=fun k=>(l).length - k })]
def lx (l:List Snap) (want:Int):List (Nat × LI):=[(2,{ σ:=Nat,F:=fun k=>([(1,one (.int (want))),(2,one (.fn 68 [] [])),(9,one (.fz (.nm .snap) (l))),(10,one (.int (l).length)),(11,one (.int k))],[]),J:=fun k=>k<=l.length/\ag Snap.id want (l.take k) = -1,μ:=fun k=>(l).length - k })]
theorem rF (l:List Sess) (want:Int) (r0:Int):dq aJ yK (ly l want) Try.f30 [.c (.fz (.nm .sess) (l)),.c (.int (want)),.c (.fn 31 [] [])] [] [.c (.int (r0))]=((fun (q1:Int)=>(fun (q0:Nat)=>l.length*(32:Nat)<=(140737488355328:Nat)->I64 want->∃ (s0:Nat),(want=want/\l=l/\(↑l.length:Int)=(↑q0:Int)/\(0:Int)=(↑s0:Int))/\(s0<=q0/\ag Sess.client want (List.take s0 l) = -q1)/\∀ (s:Nat),s<=q0/\ag Sess.client want (List.take s l) = -q1->((↑s:Int)<(↑q0:Int)->(0:Int)<=(↑s:Int)/\(↑s:Int)<(↑l.length:Int)/\∀ (x:Sess),l[s]? = some x->I64 x.client->I64 x.seq->I64 x.last.code->I64 x.last.n->I64 x.client->(x.client=want->(↑s:Int)=r0)/\(¬x.client=want->I64 ((↑s:Int)+q1)/\∃ (s':Nat),(want=want/\l=l/\(↑q0:Int)=(↑q0:Int)/\(↑s:Int)+q1=(↑s':Int))/\(s' <= q0/\ag Sess.client want (List.take s' l) = -q1)/\q0 - s' < q0 - s))/\((↑q0:Int)<=(↑s:Int) -> -q1=r0)) l.length) (1:Int)):=by kernel_rfl
theorem qe (l:List Sess) (want:Int):Sat Try.prog (au aJ) 30 [.c (.fz (.nm .sess) (l)),.c (.int (want)),.c (.fn 31 [] [])] [] ⟨[],[.c (.int ((ag Sess.client want l)))],none,false⟩:=by
 refine aU kH (ly l want) Try.func30 (by decide) (by kernel_rfl) ?_
 rw [rF]
 (repeat' (first | with_reducible refine And.intro ?_ ?_ | with_reducible refine and_imp.2 ?_ | intro))
 all_goals try (first | (first | with_reducible rfl | with_reducible assumption | omega | (refine al ?_ ?_ <;> omega)) | exact (c_ (key:=Sess.client)) | exact (cd (key:=Sess.client) (by with_reducible assumption) (by with_reducible assumption) (by with_reducible assumption)) | exact (cE (key:=Sess.client) (by with_reducible assumption) (by omega)) | exact (cD (key:=Sess.client) (by with_reducible assumption) (by with_reducible assumption) (by with_reducible assumption)))
 all_goals try (refine ⟨0,?_⟩; (repeat' (first | with_reducible refine And.intro ?_ ?_ | with_reducible refine and_imp.2 ?_ | intro)))
 all_goals try (first | (first | with_reducible rfl | with_reducible assumption | omega | (refine al ?_ ?_ <;> omega)) | exact (c_ (key:=Sess.client)) | exact (cd (key:=Sess.client) (by with_reducible assumption) (by with_reducible assumption) (by with_reducible assumption)) | exact (cE (key:=Sess.client) (by with_reducible assumption) (by omega)) | exact (cD (key:=Sess.client) (by with_reducible assumption) (by with_reducible assumption) (by with_reducible assumption)))
 all_goals try (refine ⟨‹Nat› + 1,?_⟩; (repeat' (first | with_reducible refine And.intro ?_ ?_ | with_reducible refine and_imp.2 ?_ | intro)))
 all_goals (first | (first | with_reducible rfl | with_reducible assumption | omega | (refine al ?_ ?_ <;> omega)) | exact (c_ (key:=Sess.client)) | exact (cd (key:=Sess.client) (by with_reducible assumption) (by with_reducible assumption) (by with_reducible assumption)) | exact (cE (key:=Sess.client) (by with_reducible assumption) (by omega)) | exact (cD (key:=Sess.client) (by with_reducible assumption) (by with_reducible assumption) (by with_reducible assumption)))
theorem ql (l:List Opn) (want:Int) (r0:Int):dq aJ yK (mz l want) Try.f91 [.c (.fz (.nm .opn) (l)),.c (.int (want)),.c (.fn 41 [] [])] [] [.c (.int (r0))]=((fun (q1:Int)=>(fun (q0:Nat)=>l.length*(16:Nat)<=(140737488355328:Nat)->I64 want->∃ (s0:Nat),(want=want/\l=l/\(↑l.length:Int)=(↑q0:Int)/\(0:Int)=(↑s0:Int))/\(s0<=q0/\ag Opn.set want (List.take s0 l) = -q1)/\∀ (s:Nat),s<=q0/\ag Opn.set want (List.take s l) = -q1->((↑s:Int)<(↑q0:Int)->(0:Int)<=(↑s:Int)/\(↑s:Int)<(↑l.length:Int)/\∀ (x:Opn),l[s]? = some x->I64 x.set->I64 x.client->I64 x.set->(x.set=want->(↑s:Int)=r0)/\(¬x.set=want->I64 ((↑s:Int)+q1)/\∃ (s':Nat),(want=want/\l=l/\(↑q0:Int)=(↑q0:Int)/\(↑s:Int)+q1=(↑s':Int))/\(s' <= q0/\ag Opn.set want (List.take s' l) = -q1)/\q0 - s' < q0 - s))/\((↑q0:Int)<=(↑s:Int) -> -q1=r0)) l.length) (1:Int)):=by kernel_rfl
theorem ri (l:List Opn) (want:Int):Sat Try.prog (au aJ) 91 [.c (.fz (.nm .opn) (l)),.c (.int (want)),.c (.fn 41 [] [])] [] ⟨[],[.c (.int ((ag Opn.set want l)))],none,false⟩:=by
 refine aU kH (mz l want) Try.func91 (by decide) (by kernel_rfl) ?_
 rw [ql]
 (repeat' (first | with_reducible refine And.intro ?_ ?_ | with_reducible refine and_imp.2 ?_ | intro))
 all_goals try (first | (first | with_reducible rfl | with_reducible assumption | omega | (refine al ?_ ?_ <;> omega)) | exact (c_ (key:=Opn.set)) | exact (cd (key:=Opn.set) (by with_reducible assumption) (by with_reducible assumption) (by with_reducible assumption)) | exact (cE (key:=Opn.set) (by with_reducible assumption) (by omega)) | exact (cD (key:=Opn.set) (by with_reducible assumption) (by with_reducible assumption) (by with_reducible assumption)))
 all_goals try (refine ⟨0,?_⟩; (repeat' (first | with_reducible refine And.intro ?_ ?_ | with_reducible refine and_imp.2 ?_ | intro)))
 all_goals try (first | (first | with_reducible rfl | with_reducible assumption | omega | (refine al ?_ ?_ <;> omega)) | exact (c_ (key:=Opn.set)) | exact (cd (key:=Opn.set) (by with_reducible assumption) (by with_reducible assumption) (by with_reducible assumption)) | exact (cE (key:=Opn.set) (by with_reducible assumption) (by omega)) | exact (cD (key:=Opn.set) (by with_reducible assumption) (by with_reducible assumption) (by with_reducible assumption)))
 all_goals try (refine ⟨‹Nat› + 1,?_⟩; (repeat' (first | with_reducible refine And.intro ?_ ?_ | with_reducible refine and_imp.2 ?_ | intro)))
 all_goals (first | (first | with_reducible rfl | with_reducible assumption | omega | (refine al ?_ ?_ <;> omega)) | exact (c_ (key:=Opn.set)) | exact (cd (key:=Opn.set) (by with_reducible assumption) (by with_reducible assumption) (by with_reducible assumption)) | exact (cE (key:=Opn.set) (by with_reducible assumption) (by omega)) | exact (cD (key:=Opn.set) (by with_reducible assumption) (by with_reducible assumption) (by with_reducible assumption)))
theorem qW (l:List Snap) (want:Int) (r0:Int):dq aJ yK (lx l want) Try.f78 [.c (.fz (.nm .snap) (l)),.c (.int (want)),.c (.fn 68 [] [])] [] [.c (.int (r0))]=((fun (q1:Int)=>(fun (q0:Nat)=>l.length*(64:Nat)<=(140737488355328:Nat)->I64 want->∃ (s0:Nat),(want=want/\l=l/\(↑l.length:Int)=(↑q0:Int)/\(0:Int)=(↑s0:Int))/\(s0<=q0/\ag Snap.id want (List.take s0 l) = -q1)/\∀ (s:Nat),s<=q0/\ag Snap.id want (List.take s l) = -q1->((↑s:Int)<(↑q0:Int)->(0:Int)<=(↑s:Int)/\(↑s:Int)<(↑l.length:Int)/\∀ (x:Snap),l[s]? = some x->I64 x.id->I64 x.set->x.chunks.length*(8:Nat)<=(140737488355328:Nat)->x.tag.b.length<=(140737488355328:Nat)->I64 x.id->(x.id=want->(↑s:Int)=r0)/\(¬x.id=want->I64 ((↑s:Int)+q1)/\∃ (s':Nat),(want=want/\l=l/\(↑q0:Int)=(↑q0:Int)/\(↑s:Int)+q1=(↑s':Int))/\(s' <= q0/\ag Snap.id want (List.take s' l) = -q1)/\q0 - s' < q0 - s))/\((↑q0:Int)<=(↑s:Int) -> -q1=r0)) l.length) (1:Int)):=by kernel_rfl
theorem pT (l:List Snap) (want:Int):Sat Try.prog (au aJ) 78 [.c (.fz (.nm .snap) (l)),.c (.int (want)),.c (.fn 68 [] [])] [] ⟨[],[.c (.int ((ag Snap.id want l)))],none,false⟩:=by
 refine aU kH (lx l want) Try.func78 (by decide) (by kernel_rfl) ?_
 rw [qW]
 (repeat' (first | with_reducible refine And.intro ?_ ?_ | with_reducible refine and_imp.2 ?_ | intro))
 all_goals try (first | (first | with_reducible rfl | with_reducible assumption | omega | (refine al ?_ ?_ <;> omega)) | exact (c_ (key:=Snap.id)) | exact (cd (key:=Snap.id) (by with_reducible assumption) (by with_reducible assumption) (by with_reducible assumption)) | exact (cE (key:=Snap.id) (by with_reducible assumption) (by omega)) | exact (cD (key:=Snap.id) (by with_reducible assumption) (by with_reducible assumption) (by with_reducible assumption)))
 all_goals try (refine ⟨0,?_⟩; (repeat' (first | with_reducible refine And.intro ?_ ?_ | with_reducible refine and_imp.2 ?_ | intro)))
 all_goals try (first | (first | with_reducible rfl | with_reducible assumption | omega | (refine al ?_ ?_ <;> omega)) | exact (c_ (key:=Snap.id)) | exact (cd (key:=Snap.id) (by with_reducible assumption) (by with_reducible assumption) (by with_reducible assumption)) | exact (cE (key:=Snap.id) (by with_reducible assumption) (by omega)) | exact (cD (key:=Snap.id) (by with_reducible assumption) (by with_reducible assumption) (by with_reducible assumption)))
 all_goals try (refine ⟨‹Nat› + 1,?_⟩; (repeat' (first | with_reducible refine And.intro ?_ ?_ | with_reducible refine and_imp.2 ?_ | intro)))
 all_goals (first | (first | with_reducible rfl | with_reducible assumption | omega | (refine al ?_ ?_ <;> omega)) | exact (c_ (key:=Snap.id)) | exact (cd (key:=Snap.id) (by with_reducible assumption) (by with_reducible assumption) (by with_reducible assumption)) | exact (cE (key:=Snap.id) (by with_reducible assumption) (by omega)) | exact (cD (key:=Snap.id) (by with_reducible assumption) (by with_reducible assumption) (by with_reducible assumption)))
def rb:cJ:=(bW 78 (bQ (aj (kC (cL (.nm .snap))) (aj (kC cI) (aj (kC (mP 68 [] [])) aP))) aO fun (l,want,_,_) (_)=>⟨[],[.c (.int ((ag Snap.id want l)))],none,false⟩) (bW 91 (bQ (aj (kC (cL (.nm .opn))) (aj (kC cI) (aj (kC (mP 41 [] [])) aP))) aO fun (l,want,_,_) (_)=>⟨[],[.c (.int ((ag Opn.set want l)))],none,false⟩) (bW 30 (bQ (aj (kC (cL (.nm .sess))) (aj (kC cI) (aj (kC (mP 31 [] [])) aP))) aO fun (l,want,_,_) (_)=>⟨[],[.c (.int ((ag Sess.client want l)))],none,false⟩) yK)))
theorem fv:aR Try.prog (au aJ) rb:=(aC (aB (ae (aw bR) (ae (aw ax) (ae (aw cu) ao))) aq fun (l,want,_,_) (_) _=>pT l want ) (aC (aB (ae (aw bR) (ae (aw ax) (ae (aw cu) ao))) aq fun (l,want,_,_) (_) _=>ri l want ) (aC (aB (ae (aw bR) (ae (aw ax) (ae (aw cu) ao))) aq fun (l,want,_,_) (_) _=>qe l want ) kH)))
end Go.Proofs.Ytdggohppeeaipaa
namespace Go.Proofs.Ytdggohppeeaipaa
open Go.RowKit
theorem Bv {n r m:Nat} (h:aT n+1=aT r+m) (hr:128<=r):aT n+1=aT (r / 128)+(m+1):=by
 have:=mb (n:=r) (by omega); omega
theorem BX {n r m:Nat} (h:aT n+1=aT r+m) (hn:n<18446744073709551616):m<=10:=by
 have:=kU hn; have:=gD r; omega
theorem zT {n r m:Nat} (h:aT n+1=aT r+m) (hr:r<128):m=aT n:=by
 have:=g_ hr; omega
section
variable {α:Type} {key:α->Int} {most:Int} {l:List α} {k:Nat} {x:α}
theorem iw (h:ak key most 0 (l.take k)=true) (hx:l[k]? = some x) (hb:cw (key x) (bp key 0 (l.take k)+1) most=true):ak key most 0 (l.take (k+1))=true:=
 jW h hx (by have:=oR hb; omega) (oR hb).2
theorem iD (hx:l[k]? = some x) (hb:cw (key x) (bp key 0 (l.take k)+1) most=false):false=ak key most 0 l:=
 (j_ hx (by have:=Iw hb; omega)).symm
theorem iC (h:ak key most 0 (l.take k)=true) (hk:l.length<=k):true=ak key most 0 l:=(kn h hk).symm
theorem iV (hx:l[k]? = some x) (h0:0<=bp key 0 (l.take k)) (hb:cw (key x) (bp key 0 (l.take k)+1) most=true):0<=bp key 0 (l.take (k+1)):=by
 have:=oR hb; rw [<- bP hx]; omega
theorem iZ (hx:l[k]? = some x) (hb:cw (key x) (bp key 0 (l.take k)+1) most=true) (hm:most<=1048576):bp key 0 (l.take (k+1))<=1048576:=by
 have:=oR hb; rw [<- bP hx]; omega
variable {p:α->Bool}
theorem i_ (hx:l[k]? = some x) (hp:p x=false):false=l.all p:=(yl hx hp).symm
theorem iu (h:(l.take k).all p=true) (hk:l.length<=k):true=l.all p:=(yF h hk).symm
end
def Dq (n:U64):List (Nat × LI):=[(2,{ σ:=Nat × Nat,F:=fun s=>([(0,one (.u64 s.1)),(3,one (.int s.2))],[]),J:=fun s=>s.1<18446744073709551616/\aT n.n+1=aT s.1+s.2,μ:=fun s=>s.1 })]
def jZ (l:List Sess) (most:Int):List (Nat × LI):=[(3,{ σ:=Nat,F:=fun k=>([(1,one (.int (most))),(2,one (.fn 31 [] [])),(7,one (.int (bp Sess.client 0 (l.take k)))),(10,one (.fz (.nm .sess) (l))),(11,one (.int (l).length)),(12,one (.int k))],[]),J:=fun k=>k<=l.length/\ak Sess.client most 0 (l.take k)=true/\0<=bp Sess.client 0 (l.take k)/\bp Sess.client 0 (l.take k)<=1048576,μ:=fun k=>(l).length - k })]
def kj (l:List Opn) (most:Int):List (Nat × LI):=[(3,{ σ:=Nat,F:=fun k=>([(1,one (.int (most))),(2,one (.fn 41 [] [])),(7,one (.int (bp Opn.set 0 (l.take k)))),(10,one (.fz (.nm .opn) (l))),(11,one (.int (l).length)),(12,one (.int k))],[]),J:=fun k=>k<=l.length/\ak Opn.set most 0 (l.take k)=true/\0<=bp Opn.set 0 (l.take k)/\bp Opn.set 0 (l.take k)<=1048576,μ:=fun k=>(l).length - k })]
def ke (l:List Snap) (most:Int):List (Nat × LI):=[(3,{ σ:=Nat,F:=fun k=>([(1,one (.int (most))),(2,one (.fn 68 [] [])),(7,one (.int (bp Snap.id 0 (l.take k)))),(10,one (.fz (.nm .snap) (l))),(11,one (.int (l).length)),(12,one (.int k))],[]),J:=fun k=>k<=l.length/\ak Snap.id most 0 (l.take k)=true/\0<=bp Snap.id 0 (l.take k)/\bp Snap.id 0 (l.take k)<=1048576,μ:=fun k=>(l).length - k })]
theorem EG (n:U64) (r0:Int):dq aJ rb (Dq n) Try.f98 [.c (.u64 (n).n)] [] [.c (.int (r0))]=((fun (q0:Nat)=>n.n<(18446744073709551616:Nat)->∃ (s0:Nat × Nat),(n.n=s0.fst/\(1:Int)=(↑s0.snd:Int))/\(s0.fst<(18446744073709551616:Nat)/\q0=aT s0.fst+s0.snd)/\∀ (s:Nat × Nat),s.fst<(18446744073709551616:Nat)/\q0=aT s.fst+s.snd->((↑(128:Nat):Int)<=(↑s.fst:Int)->(7:Nat)<(64:Nat)/\I64 ((↑s.snd:Int)+(1:Int))/\∃ (s':Nat × Nat),(s.fst / (2:Nat) ^ (7:Nat)=s'.fst/\(↑s.snd:Int)+(1:Int)=(↑s'.snd:Int))/\(s'.fst<(18446744073709551616:Nat)/\q0=aT s'.fst+s'.snd)/\s'.fst<s.fst)/\((↑s.fst:Int)<(↑(128:Nat):Int)->(↑s.snd:Int)=r0)) (aT n.n+(1:Nat))):=by kernel_rfl
theorem Fc (n:U64):Sat Try.prog (au aJ) 98 [.c (.u64 (n).n)] [] ⟨[],[.c (.int (((aT n.n:Int))))],none,false⟩:=by
 refine aU fv (Dq n) Try.func98 (by decide) (by kernel_rfl) ?_
 rw [EG]
 intro hn
 refine ⟨(n.n,1),⟨rfl,rfl⟩,⟨hn,rfl⟩,fun s hs=>⟨fun h=>?_,fun h=>?_⟩⟩
 ·have h2:=Bv hs.2 (by omega)
  have h3:=BX hs.2 hn
  exact ⟨by omega,by constructor <;> omega,(s.1 / 128,s.2+1),⟨rfl,by simp⟩,⟨by show s.1 / 128<_; omega,h2⟩,by show s.1 / 128<s.1; omega⟩
 ·exact congrArg Int.ofNat (zT hs.2 (by omega))
theorem pe (l:List Sess) (most:Int) (r0:Bool):dq aJ rb (jZ l most) Try.f37 [.c (.fz (.nm .sess) (l)),.c (.int (most)),.c (.fn 31 [] [])] [] [.c (.bool (.atom (r0)))]=((fun (q1:Nat)=>(fun (q0:Int)=>l.length*(32:Nat)<=(140737488355328:Nat)->I64 most->∃ (s0:Nat),(fun (q2:Int)=>(most=most/\q0=q2/\l=l/\(↑l.length:Int)=(↑q1:Int)/\q0=(↑s0:Int))/\(s0<=q1/\ak Sess.client most q0 (List.take s0 l)=true/\q0<=q2/\q2<=(1048576:Int))/\∀ (s:Nat),(fun (q3:Int)=>s<=q1/\ak Sess.client most q0 (List.take s l)=true/\q0<=q3/\q3<=(1048576:Int)->((↑s:Int)<(↑q1:Int)->q0<=(↑s:Int)/\(↑s:Int)<(↑l.length:Int)/\∀ (x:Sess),(fun (q4:Bool)=>l[s]? = some x->I64 x.client->I64 x.seq->I64 x.last.code->I64 x.last.n->I64 x.client->I64 (q3+(1:Int))/\(q4=false->false=r0)/\(q4=true->I64 x.client->I64 ((↑s:Int)+(1:Int))/\∃ (s':Nat),(fun (q5:Int)=>(most=most/\x.client=q5/\l=l/\(↑q1:Int)=(↑q1:Int)/\(↑s:Int)+(1:Int)=(↑s':Int))/\(s' <= q1/\ak Sess.client most q0 (List.take s' l)=true/\q0<=q5/\q5<=(1048576:Int))/\q1 - s' < q1 - s) (bp Sess.client q0 (List.take s' l)))) (cw x.client (q3+(1:Int)) most))/\((↑q1:Int)<=(↑s:Int)->true=r0)) (bp Sess.client q0 (List.take s l))) (bp Sess.client q0 (List.take s0 l))) (0:Int)) l.length):=by kernel_rfl
theorem oT (l:List Sess) (most:Int) (h0:most<=1048576):Sat Try.prog (au aJ) 37 [.c (.fz (.nm .sess) (l)),.c (.int (most)),.c (.fn 31 [] [])] [] ⟨[most<=1048576],[.c (.bool (.atom ((ak Sess.client most 0 l))))],none,false⟩:=by
 refine aU fv (jZ l most) Try.func37 (by decide) (by kernel_rfl) ?_
 rw [pe]
 (repeat' (first | with_reducible refine And.intro ?_ ?_ | with_reducible refine and_imp.2 ?_ | intro))
 all_goals try (first | (first | with_reducible rfl | with_reducible assumption | omega | (refine al ?_ ?_ <;> omega)) | exact (iw (key:=Sess.client) (by with_reducible assumption) (by with_reducible assumption) (by with_reducible assumption)) | exact (iD (key:=Sess.client) (by with_reducible assumption) (by with_reducible assumption)) | exact (iC (key:=Sess.client) (by with_reducible assumption) (by omega)) | exact (bP (key:=Sess.client) (by with_reducible assumption)) | exact (iV (key:=Sess.client) (by with_reducible assumption) (by with_reducible assumption) (by with_reducible assumption)) | exact (iZ (key:=Sess.client) (by with_reducible assumption) (by with_reducible assumption) (by with_reducible assumption)) | exact rfl | exact Int.le_refl _ | exact (show (0:Int)<=1048576 by omega))
 all_goals try (refine ⟨0,?_⟩; (repeat' (first | with_reducible refine And.intro ?_ ?_ | with_reducible refine and_imp.2 ?_ | intro)))
 all_goals try (first | (first | with_reducible rfl | with_reducible assumption | omega | (refine al ?_ ?_ <;> omega)) | exact (iw (key:=Sess.client) (by with_reducible assumption) (by with_reducible assumption) (by with_reducible assumption)) | exact (iD (key:=Sess.client) (by with_reducible assumption) (by with_reducible assumption)) | exact (iC (key:=Sess.client) (by with_reducible assumption) (by omega)) | exact (bP (key:=Sess.client) (by with_reducible assumption)) | exact (iV (key:=Sess.client) (by with_reducible assumption) (by with_reducible assumption) (by with_reducible assumption)) | exact (iZ (key:=Sess.client) (by with_reducible assumption) (by with_reducible assumption) (by with_reducible assumption)) | exact rfl | exact Int.le_refl _ | exact (show (0:Int)<=1048576 by omega))
 all_goals try (refine ⟨‹Nat› + 1,?_⟩; (repeat' (first | with_reducible refine And.intro ?_ ?_ | with_reducible refine and_imp.2 ?_ | intro)))
 all_goals (first | (first | with_reducible rfl | with_reducible assumption | omega | (refine al ?_ ?_ <;> omega)) | exact (iw (key:=Sess.client) (by with_reducible assumption) (by with_reducible assumption) (by with_reducible assumption)) | exact (iD (key:=Sess.client) (by with_reducible assumption) (by with_reducible assumption)) | exact (iC (key:=Sess.client) (by with_reducible assumption) (by omega)) | exact (bP (key:=Sess.client) (by with_reducible assumption)) | exact (iV (key:=Sess.client) (by with_reducible assumption) (by with_reducible assumption) (by with_reducible assumption)) | exact (iZ (key:=Sess.client) (by with_reducible assumption) (by with_reducible assumption) (by with_reducible assumption)) | exact rfl | exact Int.le_refl _ | exact (show (0:Int)<=1048576 by omega))
theorem nU (l:List Opn) (most:Int) (r0:Bool):dq aJ rb (kj l most) Try.f40 [.c (.fz (.nm .opn) (l)),.c (.int (most)),.c (.fn 41 [] [])] [] [.c (.bool (.atom (r0)))]=((fun (q1:Nat)=>(fun (q0:Int)=>l.length*(16:Nat)<=(140737488355328:Nat)->I64 most->∃ (s0:Nat),(fun (q2:Int)=>(most=most/\q0=q2/\l=l/\(↑l.length:Int)=(↑q1:Int)/\q0=(↑s0:Int))/\(s0<=q1/\ak Opn.set most q0 (List.take s0 l)=true/\q0<=q2/\q2<=(1048576:Int))/\∀ (s:Nat),(fun (q3:Int)=>s<=q1/\ak Opn.set most q0 (List.take s l)=true/\q0<=q3/\q3<=(1048576:Int)->((↑s:Int)<(↑q1:Int)->q0<=(↑s:Int)/\(↑s:Int)<(↑l.length:Int)/\∀ (x:Opn),(fun (q4:Bool)=>l[s]? = some x->I64 x.set->I64 x.client->I64 x.set->I64 (q3+(1:Int))/\(q4=false->false=r0)/\(q4=true->I64 x.set->I64 ((↑s:Int)+(1:Int))/\∃ (s':Nat),(fun (q5:Int)=>(most=most/\x.set=q5/\l=l/\(↑q1:Int)=(↑q1:Int)/\(↑s:Int)+(1:Int)=(↑s':Int))/\(s' <= q1/\ak Opn.set most q0 (List.take s' l)=true/\q0<=q5/\q5<=(1048576:Int))/\q1 - s' < q1 - s) (bp Opn.set q0 (List.take s' l)))) (cw x.set (q3+(1:Int)) most))/\((↑q1:Int)<=(↑s:Int)->true=r0)) (bp Opn.set q0 (List.take s l))) (bp Opn.set q0 (List.take s0 l))) (0:Int)) l.length):=by kernel_rfl
theorem oA (l:List Opn) (most:Int) (h0:most<=1048576):Sat Try.prog (au aJ) 40 [.c (.fz (.nm .opn) (l)),.c (.int (most)),.c (.fn 41 [] [])] [] ⟨[most<=1048576],[.c (.bool (.atom ((ak Opn.set most 0 l))))],none,false⟩:=by
 refine aU fv (kj l most) Try.func40 (by decide) (by kernel_rfl) ?_
 rw [nU]
 (repeat' (first | with_reducible refine And.intro ?_ ?_ | with_reducible refine and_imp.2 ?_ | intro))
 all_goals try (first | (first | with_reducible rfl | with_reducible assumption | omega | (refine al ?_ ?_ <;> omega)) | exact (iw (key:=Opn.set) (by with_reducible assumption) (by with_reducible assumption) (by with_reducible assumption)) | exact (iD (key:=Opn.set) (by with_reducible assumption) (by with_reducible assumption)) | exact (iC (key:=Opn.set) (by with_reducible assumption) (by omega)) | exact (bP (key:=Opn.set) (by with_reducible assumption)) | exact (iV (key:=Opn.set) (by with_reducible assumption) (by with_reducible assumption) (by with_reducible assumption)) | exact (iZ (key:=Opn.set) (by with_reducible assumption) (by with_reducible assumption) (by with_reducible assumption)) | exact rfl | exact Int.le_refl _ | exact (show (0:Int)<=1048576 by omega))
 all_goals try (refine ⟨0,?_⟩; (repeat' (first | with_reducible refine And.intro ?_ ?_ | with_reducible refine and_imp.2 ?_ | intro)))
 all_goals try (first | (first | with_reducible rfl | with_reducible assumption | omega | (refine al ?_ ?_ <;> omega)) | exact (iw (key:=Opn.set) (by with_reducible assumption) (by with_reducible assumption) (by with_reducible assumption)) | exact (iD (key:=Opn.set) (by with_reducible assumption) (by with_reducible assumption)) | exact (iC (key:=Opn.set) (by with_reducible assumption) (by omega)) | exact (bP (key:=Opn.set) (by with_reducible assumption)) | exact (iV (key:=Opn.set) (by with_reducible assumption) (by with_reducible assumption) (by with_reducible assumption)) | exact (iZ (key:=Opn.set) (by with_reducible assumption) (by with_reducible assumption) (by with_reducible assumption)) | exact rfl | exact Int.le_refl _ | exact (show (0:Int)<=1048576 by omega))
 all_goals try (refine ⟨‹Nat› + 1,?_⟩; (repeat' (first | with_reducible refine And.intro ?_ ?_ | with_reducible refine and_imp.2 ?_ | intro)))
 all_goals (first | (first | with_reducible rfl | with_reducible assumption | omega | (refine al ?_ ?_ <;> omega)) | exact (iw (key:=Opn.set) (by with_reducible assumption) (by with_reducible assumption) (by with_reducible assumption)) | exact (iD (key:=Opn.set) (by with_reducible assumption) (by with_reducible assumption)) | exact (iC (key:=Opn.set) (by with_reducible assumption) (by omega)) | exact (bP (key:=Opn.set) (by with_reducible assumption)) | exact (iV (key:=Opn.set) (by with_reducible assumption) (by with_reducible assumption) (by with_reducible assumption)) | exact (iZ (key:=Opn.set) (by with_reducible assumption) (by with_reducible assumption) (by with_reducible assumption)) | exact rfl | exact Int.le_refl _ | exact (show (0:Int)<=1048576 by omega))
theorem oy (l:List Snap) (most:Int) (r0:Bool):dq aJ rb (ke l most) Try.f67 [.c (.fz (.nm .snap) (l)),.c (.int (most)),.c (.fn 68 [] [])] [] [.c (.bool (.atom (r0)))]=((fun (q1:Nat)=>(fun (q0:Int)=>l.length*(64:Nat)<=(140737488355328:Nat)->I64 most->∃ (s0:Nat),(fun (q2:Int)=>(most=most/\q0=q2/\l=l/\(↑l.length:Int)=(↑q1:Int)/\q0=(↑s0:Int))/\(s0<=q1/\ak Snap.id most q0 (List.take s0 l)=true/\q0<=q2/\q2<=(1048576:Int))/\∀ (s:Nat),(fun (q3:Int)=>s<=q1/\ak Snap.id most q0 (List.take s l)=true/\q0<=q3/\q3<=(1048576:Int)->((↑s:Int)<(↑q1:Int)->q0<=(↑s:Int)/\(↑s:Int)<(↑l.length:Int)/\∀ (x:Snap),(fun (q4:Int)=>l[s]? = some x->I64 x.id->I64 x.set->x.chunks.length*(8:Nat)<=(140737488355328:Nat)->x.tag.b.length<=(140737488355328:Nat)->I64 x.id->I64 q4/\(cw x.id q4 most=false->false=r0)/\(cw x.id q4 most=true->I64 x.id->I64 ((↑s:Int)+(1:Int))/\∃ (s':Nat),(fun (q5:Int)=>(most=most/\x.id=q5/\l=l/\(↑q1:Int)=(↑q1:Int)/\(↑s:Int)+(1:Int)=(↑s':Int))/\(s' <= q1/\ak Snap.id most q0 (List.take s' l)=true/\q0<=q5/\q5<=(1048576:Int))/\q1 - s' < q1 - s) (bp Snap.id q0 (List.take s' l)))) (q3+(1:Int)))/\((↑q1:Int)<=(↑s:Int)->true=r0)) (bp Snap.id q0 (List.take s l))) (bp Snap.id q0 (List.take s0 l))) (0:Int)) l.length):=by kernel_rfl
theorem oM (l:List Snap) (most:Int) (h0:most<=1048576):Sat Try.prog (au aJ) 67 [.c (.fz (.nm .snap) (l)),.c (.int (most)),.c (.fn 68 [] [])] [] ⟨[most<=1048576],[.c (.bool (.atom ((ak Snap.id most 0 l))))],none,false⟩:=by
 refine aU fv (ke l most) Try.func67 (by decide) (by kernel_rfl) ?_
 rw [oy]
 (repeat' (first | with_reducible refine And.intro ?_ ?_ | with_reducible refine and_imp.2 ?_ | intro))
 all_goals try (first | (first | with_reducible rfl | with_reducible assumption | omega | (refine al ?_ ?_ <;> omega)) | exact (iw (key:=Snap.id) (by with_reducible assumption) (by with_reducible assumption) (by with_reducible assumption)) | exact (iD (key:=Snap.id) (by with_reducible assumption) (by with_reducible assumption)) | exact (iC (key:=Snap.id) (by with_reducible assumption) (by omega)) | exact (bP (key:=Snap.id) (by with_reducible assumption)) | exact (iV (key:=Snap.id) (by with_reducible assumption) (by with_reducible assumption) (by with_reducible assumption)) | exact (iZ (key:=Snap.id) (by with_reducible assumption) (by with_reducible assumption) (by with_reducible assumption)) | exact rfl | exact Int.le_refl _ | exact (show (0:Int)<=1048576 by omega))
 all_goals try (refine ⟨0,?_⟩; (repeat' (first | with_reducible refine And.intro ?_ ?_ | with_reducible refine and_imp.2 ?_ | intro)))
 all_goals try (first | (first | with_reducible rfl | with_reducible assumption | omega | (refine al ?_ ?_ <;> omega)) | exact (iw (key:=Snap.id) (by with_reducible assumption) (by with_reducible assumption) (by with_reducible assumption)) | exact (iD (key:=Snap.id) (by with_reducible assumption) (by with_reducible assumption)) | exact (iC (key:=Snap.id) (by with_reducible assumption) (by omega)) | exact (bP (key:=Snap.id) (by with_reducible assumption)) | exact (iV (key:=Snap.id) (by with_reducible assumption) (by with_reducible assumption) (by with_reducible assumption)) | exact (iZ (key:=Snap.id) (by with_reducible assumption) (by with_reducible assumption) (by with_reducible assumption)) | exact rfl | exact Int.le_refl _ | exact (show (0:Int)<=1048576 by omega))
 all_goals try (refine ⟨‹Nat› + 1,?_⟩; (repeat' (first | with_reducible refine And.intro ?_ ?_ | with_reducible refine and_imp.2 ?_ | intro)))
 all_goals (first | (first | with_reducible rfl | with_reducible assumption | omega | (refine al ?_ ?_ <;> omega)) | exact (iw (key:=Snap.id) (by with_reducible assumption) (by with_reducible assumption) (by with_reducible assumption)) | exact (iD (key:=Snap.id) (by with_reducible assumption) (by with_reducible assumption)) | exact (iC (key:=Snap.id) (by with_reducible assumption) (by omega)) | exact (bP (key:=Snap.id) (by with_reducible assumption)) | exact (iV (key:=Snap.id) (by with_reducible assumption) (by with_reducible assumption) (by with_reducible assumption)) | exact (iZ (key:=Snap.id) (by with_reducible assumption) (by with_reducible assumption) (by with_reducible assumption)) | exact rfl | exact Int.le_refl _ | exact (show (0:Int)<=1048576 by omega))
theorem Ey (x:Sess) (r0:Bool):dq aJ rb [] Try.f39 [.agg (cellsOf (.nm .sess) x)] [] [.c (.bool (.atom (r0)))]=(I64 x.client->I64 x.seq->I64 x.last.code->I64 x.last.n->(cw x.seq (0:Int) (1048576:Int) && cw x.last.code (0:Int) (99:Int) && cw x.last.n (0:Int) (1048576:Int))=r0):=by kernel_rfl
theorem EC (x:Sess):Sat Try.prog (au aJ) 39 [.agg (cellsOf (.nm .sess) x)] [] ⟨[],[.c (.bool (.atom ((bF x))))],none,false⟩:=by
 refine aU fv [] Try.func39 (by decide) (by kernel_rfl) ?_
 rw [Ey]
 grind [bF,cw]
theorem FK (x:Opn) (r0:Bool):dq aJ rb [] Try.f43 [.agg (cellsOf (.nm .opn) x)] [] [.c (.bool (.atom (r0)))]=(I64 x.set->I64 x.client->cw x.client (1:Int) (8:Int)=r0):=by kernel_rfl
theorem Er (x:Opn):Sat Try.prog (au aJ) 43 [.agg (cellsOf (.nm .opn) x)] [] ⟨[],[.c (.bool (.atom ((bO x))))],none,false⟩:=by
 refine aU fv [] Try.func43 (by decide) (by kernel_rfl) ?_
 rw [FK]
 grind [bO,cw]
def oz:cJ:=(bW 43 (bQ (aj (kT (.nm .opn)) aP) aO fun (x,_) (_)=>⟨[],[.c (.bool (.atom ((bO x))))],none,false⟩) (bW 39 (bQ (aj (kT (.nm .sess)) aP) aO fun (x,_) (_)=>⟨[],[.c (.bool (.atom ((bF x))))],none,false⟩) (bW 67 (bQ (aj (kC (cL (.nm .snap))) (aj (kC cI) (aj (kC (mP 68 [] [])) aP))) aO fun (l,most,_,_) (_)=>⟨[most<=1048576],[.c (.bool (.atom ((ak Snap.id most 0 l))))],none,false⟩) (bW 40 (bQ (aj (kC (cL (.nm .opn))) (aj (kC cI) (aj (kC (mP 41 [] [])) aP))) aO fun (l,most,_,_) (_)=>⟨[most<=1048576],[.c (.bool (.atom ((ak Opn.set most 0 l))))],none,false⟩) (bW 37 (bQ (aj (kC (cL (.nm .sess))) (aj (kC cI) (aj (kC (mP 31 [] [])) aP))) aO fun (l,most,_,_) (_)=>⟨[most<=1048576],[.c (.bool (.atom ((ak Sess.client most 0 l))))],none,false⟩) (bW 98 (bQ (aj (kC cU) aP) aO fun (n,_) (_)=>⟨[],[.c (.int (((aT n.n:Int))))],none,false⟩) rb))))))
theorem eD:aR Try.prog (au aJ) oz:=(aC (aB (ae bN ao) aq fun (x,_) (_) _=>Er x ) (aC (aB (ae bN ao) aq fun (x,_) (_) _=>EC x ) (aC (aB (ae (aw bR) (ae (aw ax) (ae (aw cu) ao))) aq fun (l,most,_,_) (_) hp=>oM l most (fh hp)) (aC (aB (ae (aw bR) (ae (aw ax) (ae (aw cu) ao))) aq fun (l,most,_,_) (_) hp=>oA l most (fh hp)) (aC (aB (ae (aw bR) (ae (aw ax) (ae (aw cu) ao))) aq fun (l,most,_,_) (_) hp=>oT l most (fh hp)) (aC (aB (ae (aw DS) ao) aq fun (n,_) (_) _=>Fc n ) fv))))))
end Go.Proofs.Ytdggohppeeaipaa
namespace Go.Proofs.Ytdggohppeeaipaa
open Go.RowKit
theorem sf {n k:Nat} (h:(k:Int)<aT n):(dv n k).set k (UInt8.ofNat (n / 128 ^ k) ||| UInt8.ofNat 128)=dv n (k+1):=tf (by omega)
theorem nZ {n k:Nat} (h1:k<=aT n) (h2:(aT n:Int)<=(k:Int)):(dv n k).set ((aT n:Int) - 1).toNat ((dv n k).getD ((aT n:Int) - 1).toNat (dflt Sh.u8) &&& UInt8.ofNat 127)=lT n:=by
 have e:k=aT n:=by omega
 have e2:((aT n:Int) - 1).toNat=aT n - 1:=by omega
 have hl:=eZ (n:=n) (Nat.le_refl _)
 have hp:=gD n
 subst e
 have hlt:aT n - 1<(dv n (aT n)).length:=by omega
 rw [e2,List.getD_eq_getElem?_getD,List.getElem?_eq_getElem hlt,Option.getD_some,td (List.getElem?_eq_getElem hlt)]
 rfl
def FX (n:U64):List (Nat × LI):=[(4,{ σ:=Nat,F:=fun k=>([(0,one (.u64 (n.n / 128 ^ k))),(3,one (.int (aT n.n))),(4,one (.own 0)),(10,one (.int (aT n.n))),(11,one (.int k))],[.row 5 .u8 ((dv n.n k))]),J:=fun k=>k<=aT n.n,μ:=fun k=>aT n.n - k })]
def qv (l:List Sess):List (Nat × LI):=[(2,{ σ:=Nat,F:=fun k=>([(1,one (.fn 39 [] [])),(7,one (.fz (.nm .sess) (l))),(8,one (.int (l).length)),(9,one (.int k))],[]),J:=fun k=>k<=l.length/\(l.take k).all (bF)=true,μ:=fun k=>(l).length - k })]
def rE (l:List Opn):List (Nat × LI):=[(2,{ σ:=Nat,F:=fun k=>([(1,one (.fn 43 [] [])),(7,one (.fz (.nm .opn) (l))),(8,one (.int (l).length)),(9,one (.int k))],[]),J:=fun k=>k<=l.length/\(l.take k).all (bO)=true,μ:=fun k=>(l).length - k })]
theorem Gr (n:U64) (r0:List UInt8):th aJ oz (FX n) Try.f89 [.c (.u64 (n).n)] [] [.c (.own 0)] [.row 5 .u8 (r0)]=((fun (q2:Nat)=>(fun (q1:Int)=>(fun (q0:Int)=>n.n<(18446744073709551616:Nat)->I64 q0->(0:Int)<=q0/\q0*(↑(1:Nat):Int)<=(140737488355328:Int)/\q0=q0/\∃ (s0:Nat),(fun (q3:Int)=>(n.n=n.n / (128:Nat) ^ s0/\q0=q0/\q0=q0/\(0:Int)=(↑s0:Int)/\List.replicate q2 (dflt Sh.u8)=dv n.n s0)/\s0<=q2/\∀ (s:Nat),(fun (q4:List UInt8)=>s<=q2->((↑s:Int)<q0->(0:Int)<=(↑s:Int)/\(↑s:Int)<(↑q4.length:Int)/\(7:Nat)<(64:Nat)/\I64 ((↑s:Int)+q1)/\∃ (s':Nat),(n.n / (128:Nat) ^ s / (2:Nat) ^ (7:Nat)=n.n / (128:Nat) ^ s' /\ q0=q0/\q0=q0/\(↑s:Int)+q1=(↑s':Int)/\q4.set s (UInt8.ofNat (n.n / (128:Nat) ^ s) ||| UInt8.ofNat (128:Nat))=dv n.n s')/\s' <= q2/\q2 - s' < q2 - s)/\(q0<=(↑s:Int)->I64 q3/\(0:Int)<=q3/\q3<(↑q4.length:Int)/\(0:Int)<=q3/\q3<(↑q4.length:Int)/\q4.set q3.toNat (q4.getD q3.toNat (dflt Sh.u8) &&& UInt8.ofNat (127:Nat))=r0)) (dv n.n s)) (q0 - q1)) (↑q2:Int)) (1:Int)) (aT n.n)):=by kernel_rfl
theorem GD (n:U64):Sat Try.prog (au aJ) 89 [.c (.u64 (n).n)] [] ⟨[],[.c (.own 0)],some ([.row 5 .u8 ((lT n.n))]),true⟩:=by
 refine eH eD (FX n) Try.func89 (by decide) (by kernel_rfl) ?_
 rw [Gr]
 intro hn
 have h1:=gD n.n
 have h10:=kU hn
 (repeat' (first | with_reducible refine And.intro ?_ ?_ | with_reducible refine and_imp.2 ?_ | intro))
 all_goals try (first | (first | with_reducible rfl | with_reducible assumption | omega | (refine al ?_ ?_ <;> omega)) | exact (gR n.n) | exact (sf (by omega)) | exact (nZ (by omega) (by omega)) | exact div_pow | exact (by rw [Nat.pow_zero,Nat.div_one]) | exact (by rw [eZ (by omega)]; omega))
 all_goals try (refine ⟨0,?_⟩; (repeat' (first | with_reducible refine And.intro ?_ ?_ | with_reducible refine and_imp.2 ?_ | intro)))
 all_goals try (first | (first | with_reducible rfl | with_reducible assumption | omega | (refine al ?_ ?_ <;> omega)) | exact (gR n.n) | exact (sf (by omega)) | exact (nZ (by omega) (by omega)) | exact div_pow | exact (by rw [Nat.pow_zero,Nat.div_one]) | exact (by rw [eZ (by omega)]; omega))
 all_goals try (refine ⟨‹Nat› + 1,?_⟩; (repeat' (first | with_reducible refine And.intro ?_ ?_ | with_reducible refine and_imp.2 ?_ | intro)))
 all_goals (first | (first | with_reducible rfl | with_reducible assumption | omega | (refine al ?_ ?_ <;> omega)) | exact (gR n.n) | exact (sf (by omega)) | exact (nZ (by omega) (by omega)) | exact div_pow | exact (by rw [Nat.pow_zero,Nat.div_one]) | exact (by rw [eZ (by omega)]; omega))
theorem vW (l:List Sess) (r0:Bool):dq aJ oz (qv l) Try.f38 [.c (.fz (.nm .sess) (l)),.c (.fn 39 [] [])] [] [.c (.bool (.atom (r0)))]=((fun (q0:Nat)=>l.length*(32:Nat)<=(140737488355328:Nat)->∃ (s0:Nat),(l=l/\(↑l.length:Int)=(↑q0:Int)/\(0:Int)=(↑s0:Int))/\(s0<=q0/\(List.take s0 l).all bF=true)/\∀ (s:Nat),s<=q0/\(List.take s l).all bF=true->((↑s:Int)<(↑q0:Int)->(0:Int)<=(↑s:Int)/\(↑s:Int)<(↑l.length:Int)/\∀ (x:Sess),l[s]? = some x->I64 x.client->I64 x.seq->I64 x.last.code->I64 x.last.n->(bF x=false->false=r0)/\(bF x=true->I64 ((↑s:Int)+(1:Int))/\∃ (s':Nat),(l=l/\(↑q0:Int)=(↑q0:Int)/\(↑s:Int)+(1:Int)=(↑s':Int))/\(s' <= q0/\(List.take s' l).all bF=true)/\q0 - s' < q0 - s))/\((↑q0:Int)<=(↑s:Int)->true=r0)) l.length):=by kernel_rfl
theorem wK (l:List Sess):Sat Try.prog (au aJ) 38 [.c (.fz (.nm .sess) (l)),.c (.fn 39 [] [])] [] ⟨[],[.c (.bool (.atom ((l.all (bF)))))],none,false⟩:=by
 refine aU eD (qv l) Try.func38 (by decide) (by kernel_rfl) ?_
 rw [vW]
 (repeat' (first | with_reducible refine And.intro ?_ ?_ | with_reducible refine and_imp.2 ?_ | intro))
 all_goals try (first | (first | with_reducible rfl | with_reducible assumption | omega | (refine al ?_ ?_ <;> omega)) | exact (du (p:=bF) (by with_reducible assumption) (by with_reducible assumption) (by with_reducible assumption)) | exact (i_ (p:=bF) (by with_reducible assumption) (by with_reducible assumption)) | exact (iu (p:=bF) (by with_reducible assumption) (by omega)) | exact rfl)
 all_goals try (refine ⟨0,?_⟩; (repeat' (first | with_reducible refine And.intro ?_ ?_ | with_reducible refine and_imp.2 ?_ | intro)))
 all_goals try (first | (first | with_reducible rfl | with_reducible assumption | omega | (refine al ?_ ?_ <;> omega)) | exact (du (p:=bF) (by with_reducible assumption) (by with_reducible assumption) (by with_reducible assumption)) | exact (i_ (p:=bF) (by with_reducible assumption) (by with_reducible assumption)) | exact (iu (p:=bF) (by with_reducible assumption) (by omega)) | exact rfl)
 all_goals try (refine ⟨‹Nat› + 1,?_⟩; (repeat' (first | with_reducible refine And.intro ?_ ?_ | with_reducible refine and_imp.2 ?_ | intro)))
 all_goals (first | (first | with_reducible rfl | with_reducible assumption | omega | (refine al ?_ ?_ <;> omega)) | exact (du (p:=bF) (by with_reducible assumption) (by with_reducible assumption) (by with_reducible assumption)) | exact (i_ (p:=bF) (by with_reducible assumption) (by with_reducible assumption)) | exact (iu (p:=bF) (by with_reducible assumption) (by omega)) | exact rfl)
theorem wS (l:List Opn) (r0:Bool):dq aJ oz (rE l) Try.f42 [.c (.fz (.nm .opn) (l)),.c (.fn 43 [] [])] [] [.c (.bool (.atom (r0)))]=((fun (q0:Nat)=>l.length*(16:Nat)<=(140737488355328:Nat)->∃ (s0:Nat),(l=l/\(↑l.length:Int)=(↑q0:Int)/\(0:Int)=(↑s0:Int))/\(s0<=q0/\(List.take s0 l).all bO=true)/\∀ (s:Nat),s<=q0/\(List.take s l).all bO=true->((↑s:Int)<(↑q0:Int)->(0:Int)<=(↑s:Int)/\(↑s:Int)<(↑l.length:Int)/\∀ (x:Opn),l[s]? = some x->I64 x.set->I64 x.client->(bO x=false->false=r0)/\(bO x=true->I64 ((↑s:Int)+(1:Int))/\∃ (s':Nat),(l=l/\(↑q0:Int)=(↑q0:Int)/\(↑s:Int)+(1:Int)=(↑s':Int))/\(s' <= q0/\(List.take s' l).all bO=true)/\q0 - s' < q0 - s))/\((↑q0:Int)<=(↑s:Int)->true=r0)) l.length):=by kernel_rfl
theorem wV (l:List Opn):Sat Try.prog (au aJ) 42 [.c (.fz (.nm .opn) (l)),.c (.fn 43 [] [])] [] ⟨[],[.c (.bool (.atom ((l.all (bO)))))],none,false⟩:=by
 refine aU eD (rE l) Try.func42 (by decide) (by kernel_rfl) ?_
 rw [wS]
 (repeat' (first | with_reducible refine And.intro ?_ ?_ | with_reducible refine and_imp.2 ?_ | intro))
 all_goals try (first | (first | with_reducible rfl | with_reducible assumption | omega | (refine al ?_ ?_ <;> omega)) | exact (du (p:=bO) (by with_reducible assumption) (by with_reducible assumption) (by with_reducible assumption)) | exact (i_ (p:=bO) (by with_reducible assumption) (by with_reducible assumption)) | exact (iu (p:=bO) (by with_reducible assumption) (by omega)) | exact rfl)
 all_goals try (refine ⟨0,?_⟩; (repeat' (first | with_reducible refine And.intro ?_ ?_ | with_reducible refine and_imp.2 ?_ | intro)))
 all_goals try (first | (first | with_reducible rfl | with_reducible assumption | omega | (refine al ?_ ?_ <;> omega)) | exact (du (p:=bO) (by with_reducible assumption) (by with_reducible assumption) (by with_reducible assumption)) | exact (i_ (p:=bO) (by with_reducible assumption) (by with_reducible assumption)) | exact (iu (p:=bO) (by with_reducible assumption) (by omega)) | exact rfl)
 all_goals try (refine ⟨‹Nat› + 1,?_⟩; (repeat' (first | with_reducible refine And.intro ?_ ?_ | with_reducible refine and_imp.2 ?_ | intro)))
 all_goals (first | (first | with_reducible rfl | with_reducible assumption | omega | (refine al ?_ ?_ <;> omega)) | exact (du (p:=bO) (by with_reducible assumption) (by with_reducible assumption) (by with_reducible assumption)) | exact (i_ (p:=bO) (by with_reducible assumption) (by with_reducible assumption)) | exact (iu (p:=bO) (by with_reducible assumption) (by omega)) | exact rfl)
theorem oe (l:List Sess) (r0:List Sess):th aJ oz [] Try.f18 [.c (.fz (.nm .sess) (l))] [] [.c (.own 0)] [.row 40 (.nm .sess) (r0)]=((fun (q0:Prop)=>q0->∀ (b:Bool),(b=true->l=[])->(b=true->r0=[])/\(b=false->q0/\l=r0)) (l.length*(32:Nat)<=(140737488355328:Nat))):=by kernel_rfl
theorem pw (l:List Sess):Sat Try.prog (au aJ) 18 [.c (.fz (.nm .sess) (l))] [] ⟨[],[.c (.own 0)],some ([.row 40 (.nm .sess) ((l))]),true⟩:=by
 refine eH eD [] Try.func18 (by decide) (by kernel_rfl) ?_
 rw [oe]
 exact fun h b hb=>⟨hb,fun _=>⟨h,rfl⟩⟩
theorem qF (l:List Opn) (r0:List Opn):th aJ oz [] Try.f19 [.c (.fz (.nm .opn) (l))] [] [.c (.own 0)] [.row 48 (.nm .opn) (r0)]=((fun (q0:Prop)=>q0->∀ (b:Bool),(b=true->l=[])->(b=true->r0=[])/\(b=false->q0/\l=r0)) (l.length*(16:Nat)<=(140737488355328:Nat))):=by kernel_rfl
theorem qu (l:List Opn):Sat Try.prog (au aJ) 19 [.c (.fz (.nm .opn) (l))] [] ⟨[],[.c (.own 0)],some ([.row 48 (.nm .opn) ((l))]),true⟩:=by
 refine eH eD [] Try.func19 (by decide) (by kernel_rfl) ?_
 rw [qF]
 exact fun h b hb=>⟨hb,fun _=>⟨h,rfl⟩⟩
theorem oi (l:List Snap) (r0:List Snap):th aJ oz [] Try.f20 [.c (.fz (.nm .snap) (l))] [] [.c (.own 0)] [.row 59 (.nm .snap) (r0)]=((fun (q0:Prop)=>q0->∀ (b:Bool),(b=true->l=[])->(b=true->r0=[])/\(b=false->q0/\l=r0)) (l.length*(64:Nat)<=(140737488355328:Nat))):=by kernel_rfl
theorem oV (l:List Snap):Sat Try.prog (au aJ) 20 [.c (.fz (.nm .snap) (l))] [] ⟨[],[.c (.own 0)],some ([.row 59 (.nm .snap) ((l))]),true⟩:=by
 refine eH eD [] Try.func20 (by decide) (by kernel_rfl) ?_
 rw [oi]
 exact fun h b hb=>⟨hb,fun _=>⟨h,rfl⟩⟩
theorem qM (l:List Int) (r0:List Int):dq aJ oz [] Try.f21 [.c (.fz .int (l))] [] [.c (.fz .int (r0))]=((fun (q0:Prop)=>q0->∀ (b:Bool),(b=true->l=[])->(b=true->r0=[])/\(b=false->q0/\l=r0)) (l.length*(8:Nat)<=(140737488355328:Nat))):=by kernel_rfl
theorem rm (l:List Int):Sat Try.prog (au aJ) 21 [.c (.fz .int (l))] [] ⟨[],[.c (.fz .int ((l)))],none,false⟩:=by
 refine aU eD [] Try.func21 (by decide) (by kernel_rfl) ?_
 rw [qM]
 intros; repeat' (first | refine And.intro ?_ ?_ | intro)
 all_goals first | rfl | assumption | simp_all
def rG:cJ:=(bW 21 (bQ (aj (kC (cL .int)) aP) aO fun (l,_) (_)=>⟨[],[.c (.fz .int ((l)))],none,false⟩) (bW 20 (bQ (aj (kC (cL (.nm .snap))) aP) aO fun (l,_) (_)=>⟨[],[.c (.own 0)],some ([.row 59 (.nm .snap) ((l))]),true⟩) (bW 19 (bQ (aj (kC (cL (.nm .opn))) aP) aO fun (l,_) (_)=>⟨[],[.c (.own 0)],some ([.row 48 (.nm .opn) ((l))]),true⟩) (bW 18 (bQ (aj (kC (cL (.nm .sess))) aP) aO fun (l,_) (_)=>⟨[],[.c (.own 0)],some ([.row 40 (.nm .sess) ((l))]),true⟩) (bW 42 (bQ (aj (kC (cL (.nm .opn))) (aj (kC (mP 43 [] [])) aP)) aO fun (l,_,_) (_)=>⟨[],[.c (.bool (.atom ((l.all (bO)))))],none,false⟩) (bW 38 (bQ (aj (kC (cL (.nm .sess))) (aj (kC (mP 39 [] [])) aP)) aO fun (l,_,_) (_)=>⟨[],[.c (.bool (.atom ((l.all (bF)))))],none,false⟩) (bW 89 (bQ (aj (kC cU) aP) aO fun (n,_) (_)=>⟨[],[.c (.own 0)],some ([.row 5 .u8 ((lT n.n))]),true⟩) oz)))))))
theorem fu:aR Try.prog (au aJ) rG:=(aC (aB (ae (aw bR) ao) aq fun (l,_) (_) _=>rm l ) (aC (aB (ae (aw bR) ao) aq fun (l,_) (_) _=>oV l ) (aC (aB (ae (aw bR) ao) aq fun (l,_) (_) _=>qu l ) (aC (aB (ae (aw bR) ao) aq fun (l,_) (_) _=>pw l ) (aC (aB (ae (aw bR) (ae (aw cu) ao)) aq fun (l,_,_) (_) _=>wV l ) (aC (aB (ae (aw bR) (ae (aw cu) ao)) aq fun (l,_,_) (_) _=>wK l ) (aC (aB (ae (aw DS) ao) aq fun (n,_) (_) _=>GD n ) eD)))))))
end Go.Proofs.Ytdggohppeeaipaa
namespace Go.Proofs.Ytdggohppeeaipaa
open Go.RowKit
theorem sU {x:Int} {l:List Int} {k:Nat} (h:fi x (l.take k) = -1) (hk:l.length<=k):-1=fi x l:=by rw [List.take_of_length_le hk] at h; exact h.symm
theorem oC {x y:Int} {l:List Int} {k:Nat} (h:fi x (l.take k) = -1) (hy:l[k]? = some y) (e:x=y):(k:Int)=fi x l:=by
 refine yJ (fun j z hj hz hc=>?_) hy e
 have hm:z ∈ l.take k:=by
  obtain ⟨h1,h2⟩:=List.getElem?_eq_some_iff.1 hz
  rw [List.mem_take_iff_getElem]; exact ⟨j,by omega,h2⟩
 have:decide (0<=fi x (l.take k))=true:=by rw [ug,List.contains_iff_mem,hc]; exact hm
 rw [decide_eq_true_eq] at this; omega
theorem sa {x y:Int} {l:List Int} {k:Nat} (h:fi x (l.take k) = -1) (hy:l[k]? = some y) (e:¬ x=y):fi x (l.take (k+1)) = -1:=by
 have h0:(l.take k).contains x=false:=by
  have:=ug x (l.take k)
  rw [<- this,h]; decide
 have h1:(l.take (k+1)).contains x=false:=by
  rw [aF hy,<- Bool.not_eq_true,List.contains_iff_mem] at *
  intro hm
  rcases List.mem_append.1 hm with hm | hm
  ·exact h0 hm
  ·exact e (List.mem_singleton.1 hm)
 rw [<- ug,decide_eq_false_iff_not] at h1
 unfold fi at h1 ⊢
 split
 ·rename_i i hi; rw [hi] at h1; dsimp only at h1; omega
 ·rfl
theorem EE {l:List Int} {k:Nat} {x:Int} (hr:dz l=true) (hx:l[k]? = some x):0<=x:=Int.le_of_lt (sD hr x (List.mem_of_getElem? hx)).1
theorem sM {l:List Int} {k:Nat} {x:Int} (hr:dz l=true) (hx:l[k]? = some x):((ee (l.take k)).length+(lT x.toNat).length)*1<=140737488355328:=by
 have h1:=yo (l:=l.take k) (fun x hx=>(sD hr x (List.mem_of_mem_take hx)).2)
 have h2:=oP hr
 have h3:=sD hr x (List.mem_of_getElem? hx)
 have h4:=mI (n:=x.toNat) (by omega)
 rw [List.length_take] at h1; omega
def xn (l:List Int) (x:Int):List (Nat × LI):=[(2,{ σ:=Nat,F:=fun k=>([(0,one (.fz .int (l))),(1,one (.int (x))),(7,one (.int (l).length)),(8,one (.int k))],[]),J:=fun k=>k<=l.length/\fi x (l.take k) = -1,μ:=fun k=>(l).length - k })]
def ua (l:List Int):List (Nat × LI):=[(5,{ σ:=Nat,F:=fun k=>([(4,one (.own 0)),(10,one (.fz .int (l))),(11,one (.int (l).length)),(12,one (.int k))],[.row 5 .u8 ((ee (l.take k)))]),J:=fun k=>k<=l.length/\dz l=true,μ:=fun k=>(l).length - k })]
theorem BW (l:List Int) (x:Int) (r0:Int):dq aJ rG (xn l x) Try.f90 [.c (.fz .int (l)),.c (.int (x))] [] [.c (.int (r0))]=((fun (q1:Int)=>(fun (q0:Nat)=>l.length*(8:Nat)<=(140737488355328:Nat)->I64 x->∃ (s0:Nat),(l=l/\x=x/\(↑l.length:Int)=(↑q0:Int)/\(0:Int)=(↑s0:Int))/\(s0<=q0/\fi x (List.take s0 l) = -q1)/\∀ (s:Nat),s<=q0/\fi x (List.take s l) = -q1->((↑s:Int)<(↑q0:Int)->(0:Int)<=(↑s:Int)/\(↑s:Int)<(↑l.length:Int)/\∀ (x_1:Int),l[s]? = some x_1->I64 x_1->(x=x_1->(↑s:Int)=r0)/\(¬x=x_1->I64 ((↑s:Int)+q1)/\∃ (s':Nat),(l=l/\x=x/\(↑q0:Int)=(↑q0:Int)/\(↑s:Int)+q1=(↑s':Int))/\(s' <= q0/\fi x (List.take s' l) = -q1)/\q0 - s' < q0 - s))/\((↑q0:Int)<=(↑s:Int) -> -q1=r0)) l.length) (1:Int)):=by kernel_rfl
theorem CD (l:List Int) (x:Int):Sat Try.prog (au aJ) 90 [.c (.fz .int (l)),.c (.int (x))] [] ⟨[],[.c (.int ((fi x l)))],none,false⟩:=by
 refine aU fu (xn l x) Try.func90 (by decide) (by kernel_rfl) ?_
 rw [BW]
 (repeat' (first | with_reducible refine And.intro ?_ ?_ | with_reducible refine and_imp.2 ?_ | intro))
 all_goals try (first | (first | with_reducible rfl | with_reducible assumption | omega | (refine al ?_ ?_ <;> omega)) | exact rfl | exact (sU (by with_reducible assumption) (by omega)) | exact (oC (by with_reducible assumption) (by with_reducible assumption) (by with_reducible assumption)) | exact (sa (by with_reducible assumption) (by with_reducible assumption) (by with_reducible assumption)))
 all_goals try (refine ⟨0,?_⟩; (repeat' (first | with_reducible refine And.intro ?_ ?_ | with_reducible refine and_imp.2 ?_ | intro)))
 all_goals try (first | (first | with_reducible rfl | with_reducible assumption | omega | (refine al ?_ ?_ <;> omega)) | exact rfl | exact (sU (by with_reducible assumption) (by omega)) | exact (oC (by with_reducible assumption) (by with_reducible assumption) (by with_reducible assumption)) | exact (sa (by with_reducible assumption) (by with_reducible assumption) (by with_reducible assumption)))
 all_goals try (refine ⟨‹Nat› + 1,?_⟩; (repeat' (first | with_reducible refine And.intro ?_ ?_ | with_reducible refine and_imp.2 ?_ | intro)))
 all_goals (first | (first | with_reducible rfl | with_reducible assumption | omega | (refine al ?_ ?_ <;> omega)) | exact rfl | exact (sU (by with_reducible assumption) (by omega)) | exact (oC (by with_reducible assumption) (by with_reducible assumption) (by with_reducible assumption)) | exact (sa (by with_reducible assumption) (by with_reducible assumption) (by with_reducible assumption)))
theorem BZ (n:Int) (most:Int) (named:Bool) (r0:Bool):dq aJ rG [] Try.f74 [.c (.int (n)),.c (.int (most)),.c (.bool (.atom (named)))] [] [.c (.bool (.atom (r0)))]=(I64 n->I64 most->(named=true->(decide ((1:Int)<=n) && decide (n<=most))=r0)/\(named=false->decide (n=(0:Int))=r0)):=by kernel_rfl
theorem Bt (n:Int) (most:Int) (named:Bool):Sat Try.prog (au aJ) 74 [.c (.int (n)),.c (.int (most)),.c (.bool (.atom (named)))] [] ⟨[],[.c (.bool (.atom ((fQ n most named))))],none,false⟩:=by
 refine aU fu [] Try.func74 (by decide) (by kernel_rfl) ?_
 rw [BZ]
 grind [fQ]
theorem yq (l:List Int) (r0:List UInt8) (r1:Int):dq aJ rG (ua l) Try.f71 [.c (.fz .int (l))] [] [.c (.fz .u8 (r0)),.c (.int (r1))]=((fun (q1:Prop)=>(fun (q0:Nat)=>l.length*(8:Nat)<=(140737488355328:Nat)->(dz l=false->r0=[]/\(1:Int)=r1)/\(q1->∃ (s0:Nat),(l=l/\(↑l.length:Int)=(↑q0:Int)/\(0:Int)=(↑s0:Int)/\ee (List.take s0 l)=[])/\(s0<=q0/\q1)/\∀ (s:Nat),s<=q0/\q1->((↑s:Int)<(↑q0:Int)->(0:Int)<=(↑s:Int)/\(↑s:Int)<(↑l.length:Int)/\∀ (x:Int),l[s]? = some x->I64 x->(0:Int)<=x/\((ee (List.take s l)).length+(lT x.toNat).length)*(1:Nat)<=(140737488355328:Nat)/\I64 ((↑s:Int)+(1:Int))/\∃ (s':Nat),(l=l/\(↑q0:Int)=(↑q0:Int)/\(↑s:Int)+(1:Int)=(↑s':Int)/\ee (List.take s l)++lT x.toNat=ee (List.take s' l))/\(s' <= q0/\q1)/\q0 - s' < q0 - s)/\((↑q0:Int)<=(↑s:Int)->ee (List.take s l)=r0/\(0:Int)=r1))) l.length) (dz l=true)):=by kernel_rfl
theorem AQ (l:List Int):Sat Try.prog (au aJ) 71 [.c (.fz .int (l))] [] ⟨[],[.c (.fz .u8 ((fD l))),.c (.int ((de l)))],none,false⟩:=by
 refine aU fu (ua l) Try.func71 (by decide) (by kernel_rfl) ?_
 rw [yq]
 (repeat' (first | with_reducible refine And.intro ?_ ?_ | with_reducible refine and_imp.2 ?_ | intro))
 all_goals try (first | (first | with_reducible rfl | with_reducible assumption | omega | (refine al ?_ ?_ <;> omega)) | exact rfl | exact (ji (by with_reducible assumption)).symm | exact (fF (by with_reducible assumption)) | exact (eI (by with_reducible assumption)) | exact (kW (by with_reducible assumption) (by omega)) | exact (jz (by with_reducible assumption)) | exact (EE (by with_reducible assumption) (by with_reducible assumption)) | exact (sM (by with_reducible assumption) (by with_reducible assumption)))
 all_goals try (refine ⟨0,?_⟩; (repeat' (first | with_reducible refine And.intro ?_ ?_ | with_reducible refine and_imp.2 ?_ | intro)))
 all_goals try (first | (first | with_reducible rfl | with_reducible assumption | omega | (refine al ?_ ?_ <;> omega)) | exact rfl | exact (ji (by with_reducible assumption)).symm | exact (fF (by with_reducible assumption)) | exact (eI (by with_reducible assumption)) | exact (kW (by with_reducible assumption) (by omega)) | exact (jz (by with_reducible assumption)) | exact (EE (by with_reducible assumption) (by with_reducible assumption)) | exact (sM (by with_reducible assumption) (by with_reducible assumption)))
 all_goals try (refine ⟨‹Nat› + 1,?_⟩; (repeat' (first | with_reducible refine And.intro ?_ ?_ | with_reducible refine and_imp.2 ?_ | intro)))
 all_goals (first | (first | with_reducible rfl | with_reducible assumption | omega | (refine al ?_ ?_ <;> omega)) | exact rfl | exact (ji (by with_reducible assumption)).symm | exact (fF (by with_reducible assumption)) | exact (eI (by with_reducible assumption)) | exact (kW (by with_reducible assumption) (by omega)) | exact (jz (by with_reducible assumption)) | exact (EE (by with_reducible assumption) (by with_reducible assumption)) | exact (sM (by with_reducible assumption) (by with_reducible assumption)))
theorem yg (s:State) (x:Int) (r0:Int):dq aJ rG [] Try.f24 [.agg (cellsOf (.nm .state) s),.c (.int (x))] [] [.c (.int (r0))]=(I64 s.version->I64 s.next->I64 s.keep->I64 s.quota->s.sess.length*(32:Nat)<=(140737488355328:Nat)->s.opens.length*(16:Nat)<=(140737488355328:Nat)->s.snaps.length*(64:Nat)<=(140737488355328:Nat)->I64 x->I64 (ag Sess.client x s.sess)->ag Sess.client x s.sess=r0):=by kernel_rfl
theorem yT (s:State) (x:Int):Sat Try.prog (au aJ) 24 [.agg (cellsOf (.nm .state) s),.c (.int (x))] [] ⟨[],[.c (.int ((ag Sess.client x s.sess)))],none,false⟩:=by
 refine aU fu [] Try.func24 (by decide) (by kernel_rfl) ?_
 rw [yg]
 grind
theorem xI (s:State) (x:Int) (r0:Int):dq aJ rG [] Try.f79 [.agg (cellsOf (.nm .state) s),.c (.int (x))] [] [.c (.int (r0))]=(I64 s.version->I64 s.next->I64 s.keep->I64 s.quota->s.sess.length*(32:Nat)<=(140737488355328:Nat)->s.opens.length*(16:Nat)<=(140737488355328:Nat)->s.snaps.length*(64:Nat)<=(140737488355328:Nat)->I64 x->I64 (ag Opn.set x s.opens)->ag Opn.set x s.opens=r0):=by kernel_rfl
theorem xS (s:State) (x:Int):Sat Try.prog (au aJ) 79 [.agg (cellsOf (.nm .state) s),.c (.int (x))] [] ⟨[],[.c (.int ((ag Opn.set x s.opens)))],none,false⟩:=by
 refine aU fu [] Try.func79 (by decide) (by kernel_rfl) ?_
 rw [xI]
 grind
theorem zQ (s:State) (x:Int) (r0:Int):dq aJ rG [] Try.f51 [.agg (cellsOf (.nm .state) s),.c (.int (x))] [] [.c (.int (r0))]=(I64 s.version->I64 s.next->I64 s.keep->I64 s.quota->s.sess.length*(32:Nat)<=(140737488355328:Nat)->s.opens.length*(16:Nat)<=(140737488355328:Nat)->s.snaps.length*(64:Nat)<=(140737488355328:Nat)->I64 x->I64 (ag Snap.id x s.snaps)->ag Snap.id x s.snaps=r0):=by kernel_rfl
theorem AA (s:State) (x:Int):Sat Try.prog (au aJ) 51 [.agg (cellsOf (.nm .state) s),.c (.int (x))] [] ⟨[],[.c (.int ((ag Snap.id x s.snaps)))],none,false⟩:=by
 refine aU fu [] Try.func51 (by decide) (by kernel_rfl) ?_
 rw [zQ]
 grind
def BV:cJ:=(bW 51 (bQ (aj (kT (.nm .state)) (aj (kC cI) aP)) aO fun (s,x,_) (_)=>⟨[],[.c (.int ((ag Snap.id x s.snaps)))],none,false⟩) (bW 79 (bQ (aj (kT (.nm .state)) (aj (kC cI) aP)) aO fun (s,x,_) (_)=>⟨[],[.c (.int ((ag Opn.set x s.opens)))],none,false⟩) (bW 24 (bQ (aj (kT (.nm .state)) (aj (kC cI) aP)) aO fun (s,x,_) (_)=>⟨[],[.c (.int ((ag Sess.client x s.sess)))],none,false⟩) (bW 71 (bQ (aj (kC (cL .int)) aP) aO fun (l,_) (_)=>⟨[],[.c (.fz .u8 ((fD l))),.c (.int ((de l)))],none,false⟩) (bW 74 (bQ (aj (kC cI) (aj (kC cI) (aj (kC cB) aP))) aO fun (n,most,named,_) (_)=>⟨[],[.c (.bool (.atom ((fQ n most named))))],none,false⟩) (bW 90 (bQ (aj (kC (cL .int)) (aj (kC cI) aP)) aO fun (l,x,_) (_)=>⟨[],[.c (.int ((fi x l)))],none,false⟩) rG))))))
theorem oU:aR Try.prog (au aJ) BV:=(aC (aB (ae bN (ae (aw ax) ao)) aq fun (s,x,_) (_) _=>AA s x ) (aC (aB (ae bN (ae (aw ax) ao)) aq fun (s,x,_) (_) _=>xS s x ) (aC (aB (ae bN (ae (aw ax) ao)) aq fun (s,x,_) (_) _=>yT s x ) (aC (aB (ae (aw bR) ao) aq fun (l,_) (_) _=>AQ l ) (aC (aB (ae (aw ax) (ae (aw ax) (ae (aw pW) ao))) aq fun (n,most,named,_) (_) _=>Bt n most named ) (aC (aB (ae (aw bR) (ae (aw ax) ao)) aq fun (l,x,_) (_) _=>CD l x ) fu))))))
end Go.Proofs.Ytdggohppeeaipaa
namespace Go.Proofs.Ytdggohppeeaipaa
open Go.RowKit
theorem su (l:List Int) (x:Int) (r0:Bool):dq aJ BV [] Try.f73 [.c (.fz .int (l)),.c (.int (x))] [] [.c (.bool (.atom (r0)))]=(l.length*(8:Nat)<=(140737488355328:Nat)->I64 x->I64 (fi x l)->decide ((0:Int)<=fi x l)=r0):=by kernel_rfl
theorem sy (l:List Int) (x:Int):Sat Try.prog (au aJ) 73 [.c (.fz .int (l)),.c (.int (x))] [] ⟨[],[.c (.bool (.atom ((l.contains x))))],none,false⟩:=by
 refine aU oU [] Try.func73 (by decide) (by kernel_rfl) ?_
 rw [su]
 intros; exact ug _ _
theorem xj (x:Snap) (v:Int) (t:Int) (r0:Bool):dq aJ BV [] Try.f70 [.agg (cellsOf (.nm .snap) x),.c (.ptr 0 0),.c (.ptr 1 0)] [.box 3 ([.int (v)]),.box 3 ([.int (t)])] [.c (.bool (.atom (r0)))]=(I64 x.id->I64 x.set->x.chunks.length*(8:Nat)<=(140737488355328:Nat)->x.tag.b.length<=(140737488355328:Nat)->(fD x.chunks).length*(1:Nat)<=(140737488355328:Nat)->I64 (de x.chunks)->(decide (de x.chunks=(0:Int)) && cw x.set (1:Int) (8:Int) && (!x.held || decide ((2:Int)<=v)) && decide ((↑x.tag.b.length:Int)<=t))=r0):=by kernel_rfl
theorem y_ (x:Snap) (v:Int) (t:Int):Sat Try.prog (au aJ) 70 [.agg (cellsOf (.nm .snap) x),.c (.ptr 0 0),.c (.ptr 1 0)] [.box 3 ([.int (v)]),.box 3 ([.int (t)])] ⟨[],[.c (.bool (.atom ((bj v t x))))],none,false⟩:=by
 refine aU oU [] Try.func70 (by decide) (by kernel_rfl) ?_
 rw [xj]
 intros; rfl
def BL:cJ:=(bW 70 (bQ (aj (kT (.nm .snap)) (aj (kC (bL 0 0)) (aj (kC (bL 1 0)) aP))) (ay (bK 3 (ai cI bH)) (ay (bK 3 (ai cI bH)) aO)) fun (x,_,_,_) ((v,_),(t,_),_)=>⟨[],[.c (.bool (.atom ((bj v t x))))],none,false⟩) (bW 73 (bQ (aj (kC (cL .int)) (aj (kC cI) aP)) aO fun (l,x,_) (_)=>⟨[],[.c (.bool (.atom ((l.contains x))))],none,false⟩) BV))
theorem ov:aR Try.prog (au aJ) BL:=(aC (aB (ae bN (ae (aw aI) (ae (aw aI) ao))) (ah (aG (ab ax aE)) (ah (aG (ab ax aE)) aq)) fun (x,_,_,_) ((v,_),(t,_),_) _=>y_ x v t ) (aC (aB (ae (aw bR) (ae (aw ax) ao)) aq fun (l,x,_) (_) _=>sy l x ) oU))
end Go.Proofs.Ytdggohppeeaipaa
namespace Go.Proofs.Ytdggohppeeaipaa
open Go.RowKit
def p_ (l:List Snap) (v:Int) (t:Int):List (Nat × LI):=[(2,{ σ:=Nat,F:=fun k=>([(1,one (.fn 70 [] [(0,0),(1,0)])),(7,one (.fz (.nm .snap) (l))),(8,one (.int (l).length)),(9,one (.int k))],[.box 3 ([.int ((v))]),.box 3 ([.int ((t))])]),J:=fun k=>k<=l.length/\(l.take k).all ((bj v t))=true,μ:=fun k=>(l).length - k })]
theorem CJ (l:List Int) (c:Command) (r0:Bool):dq aJ BL [] Try.f72 [.c (.fz .int (l)),.c (.ptr 0 0)] [.box 42 (cellsOf (.nm .command) (c))] [.c (.bool (.atom (r0)))]=(l.length*(8:Nat)<=(140737488355328:Nat)->l.contains c.kind=r0):=by kernel_rfl
theorem Cq (l:List Int) (c:Command):Sat Try.prog (au aJ) 72 [.c (.fz .int (l)),.c (.ptr 0 0)] [.box 42 (cellsOf (.nm .command) (c))] ⟨[],[.c (.bool (.atom ((l.contains c.kind))))],none,false⟩:=by
 refine aU ov [] Try.func72 (by decide) (by kernel_rfl) ?_
 rw [CJ]
 grind
theorem wT (l:List Snap) (v:Int) (t:Int) (r0:Bool):dq aJ BL (p_ l v t) Try.f69 [.c (.fz (.nm .snap) (l)),.c (.fn 70 [] [(0,0),(1,0)])] [.box 3 ([.int (v)]),.box 3 ([.int (t)])] [.c (.bool (.atom (r0)))]=((fun (q0:Nat)=>l.length*(64:Nat)<=(140737488355328:Nat)->∃ (s0:Nat),(l=l/\(↑l.length:Int)=(↑q0:Int)/\(0:Int)=(↑s0:Int)/\v=v/\t=t)/\(s0<=q0/\(List.take s0 l).all (bj v t)=true)/\∀ (s:Nat),s<=q0/\(List.take s l).all (bj v t)=true->((↑s:Int)<(↑q0:Int)->(0:Int)<=(↑s:Int)/\(↑s:Int)<(↑l.length:Int)/\∀ (x:Snap),l[s]? = some x->I64 x.id->I64 x.set->x.chunks.length*(8:Nat)<=(140737488355328:Nat)->x.tag.b.length<=(140737488355328:Nat)->(bj v t x=false->false=r0)/\(bj v t x=true->I64 ((↑s:Int)+(1:Int))/\∃ (s':Nat),(l=l/\(↑q0:Int)=(↑q0:Int)/\(↑s:Int)+(1:Int)=(↑s':Int)/\v=v/\t=t)/\(s' <= q0/\(List.take s' l).all (bj v t)=true)/\q0 - s' < q0 - s))/\((↑q0:Int)<=(↑s:Int)->true=r0)) l.length):=by kernel_rfl
theorem vu (l:List Snap) (v:Int) (t:Int):Sat Try.prog (au aJ) 69 [.c (.fz (.nm .snap) (l)),.c (.fn 70 [] [(0,0),(1,0)])] [.box 3 ([.int (v)]),.box 3 ([.int (t)])] ⟨[],[.c (.bool (.atom ((l.all ((bj v t))))))],none,false⟩:=by
 refine aU ov (p_ l v t) Try.func69 (by decide) (by kernel_rfl) ?_
 rw [wT]
 (repeat' (first | with_reducible refine And.intro ?_ ?_ | with_reducible refine and_imp.2 ?_ | intro))
 all_goals try (first | (first | with_reducible rfl | with_reducible assumption | omega | (refine al ?_ ?_ <;> omega)) | exact (du (p:=(bj v t)) (by with_reducible assumption) (by with_reducible assumption) (by with_reducible assumption)) | exact (i_ (p:=(bj v t)) (by with_reducible assumption) (by with_reducible assumption)) | exact (iu (p:=(bj v t)) (by with_reducible assumption) (by omega)) | exact rfl)
 all_goals try (refine ⟨0,?_⟩; (repeat' (first | with_reducible refine And.intro ?_ ?_ | with_reducible refine and_imp.2 ?_ | intro)))
 all_goals try (first | (first | with_reducible rfl | with_reducible assumption | omega | (refine al ?_ ?_ <;> omega)) | exact (du (p:=(bj v t)) (by with_reducible assumption) (by with_reducible assumption) (by with_reducible assumption)) | exact (i_ (p:=(bj v t)) (by with_reducible assumption) (by with_reducible assumption)) | exact (iu (p:=(bj v t)) (by with_reducible assumption) (by omega)) | exact rfl)
 all_goals try (refine ⟨‹Nat› + 1,?_⟩; (repeat' (first | with_reducible refine And.intro ?_ ?_ | with_reducible refine and_imp.2 ?_ | intro)))
 all_goals (first | (first | with_reducible rfl | with_reducible assumption | omega | (refine al ?_ ?_ <;> omega)) | exact (du (p:=(bj v t)) (by with_reducible assumption) (by with_reducible assumption) (by with_reducible assumption)) | exact (i_ (p:=(bj v t)) (by with_reducible assumption) (by with_reducible assumption)) | exact (iu (p:=(bj v t)) (by with_reducible assumption) (by omega)) | exact rfl)
def Dd:cJ:=(bW 69 (bQ (aj (kC (cL (.nm .snap))) (aj (kC (mP 70 [] [(0,0),(1,0)])) aP)) (ay (bK 3 (ai cI bH)) (ay (bK 3 (ai cI bH)) aO)) fun (l,_,_) ((v,_),(t,_),_)=>⟨[],[.c (.bool (.atom ((l.all ((bj v t))))))],none,false⟩) (bW 72 (bQ (aj (kC (cL .int)) (aj (kC (bL 0 0)) aP)) (ay (bK 42 (pJ (.nm .command) bH)) aO) fun (l,_,_) ((c,_),_)=>⟨[],[.c (.bool (.atom ((l.contains c.kind))))],none,false⟩) BL))
theorem oo:aR Try.prog (au aJ) Dd:=(aC (aB (ae (aw bR) (ae (aw cu) ao)) (ah (aG (ab ax aE)) (ah (aG (ab ax aE)) aq)) fun (l,_,_) ((v,_),(t,_),_) _=>vu l v t ) (aC (aB (ae (aw bR) (ae (aw aI) ao)) (ah (aG (cT aE)) aq) fun (l,_,_) ((c,_),_) _=>Cq l c ) ov))
end Go.Proofs.Ytdggohppeeaipaa
namespace Go.Proofs.Ytdggohppeeaipaa
open Go.RowKit
theorem Ha (k:Int):(if k=12 then some (Span.mk 0 64) else if k=8 then some (Span.mk 2 3) else if k=6 then some (Span.mk 0 8) else none).getD (dflt (.nm .span))=⟨(lN k).1,(lN k).2⟩:=by
 by_cases h1:k=12
 ·subst h1; rfl
 ·by_cases h2:k=8
  ·subst h2; rfl
  ·by_cases h3:k=6
   ·subst h3; rfl
   ·simp [lN,qh,h1,h2,h3,dflt]; rfl
theorem Fa (c:Command) (r0:Bool):dq aJ Dd [] Try.f47 [.agg (cellsOf (.nm .command) c)] [] [.c (.bool (.atom (r0)))]=((fun (q9:Int)=>(fun (q8:Int)=>(fun (q7:Prop)=>(fun (q6:Bool)=>(fun (q5:Bool)=>(fun (q4:Bool)=>(fun (q3:Prop)=>(fun (q2:Prop)=>(fun (q1:Prop)=>(fun (q0:den (Sh.nm NT.span))=>I64 q8->I64 c.client->I64 c.seq->I64 c.set->I64 c.id->I64 c.n->c.chunks.length*(8:Nat)<=(140737488355328:Nat)->c.text.b.length<=(140737488355328:Nat)->(q8=(3:Int)->((decide (q0.lo<=c.n) && decide (c.n<=q0.hi))=true->(dz c.chunks=true->(q7->q1)/\(¬q7->q2))/\(dz c.chunks=false->q2))/\((decide (q0.lo<=c.n) && decide (c.n<=q0.hi))=false->q2))/\(¬q8=(3:Int)->(q8=(11:Int)->((decide (q0.lo<=c.n) && decide (c.n<=q0.hi))=true->(q3->((↑c.text.b.length:Int)<=(16:Int)->q1)/\((16:Int)<(↑c.text.b.length:Int)->q2))/\(¬q3->q2))/\((decide (q0.lo<=c.n) && decide (c.n<=q0.hi))=false->q2))/\(¬q8=(11:Int)->((decide (q0.lo<=c.n) && decide (c.n<=q0.hi))=true->(q3->(q7->q1)/\(¬q7->q2))/\(¬q3->q2))/\((decide (q0.lo<=c.n) && decide (c.n<=q0.hi))=false->q2)))) (((fun (j:Int)=>if j=(12:Int) then some (Span.mk (0:Int) (64:Int)) else (fun (j:Int)=>if j=q9 then some (Span.mk (2:Int) (3:Int)) else (fun (j:Int)=>if j=(6:Int) then some (Span.mk (0:Int) q9) else (fun (_:Int)=>none) j) j) j) q8).getD (dflt (Sh.nm NT.span)))) ((q6=true->(q5=true->(q4=true->fQ c.id (1048576:Int) ([(5:Int),(7:Int),(9:Int),(10:Int),(11:Int)].contains q8)=r0)/\(q4=false->q2))/\(q5=false->q2))/\(q6=false->q2))) (false=r0)) ((↑c.chunks.length:Int)=(0:Int))) (fQ c.set q9 ([(2:Int),(3:Int),(4:Int)].contains q8))) (fQ c.seq (1048576:Int) ![(1:Int),q9].contains q8)) (fQ c.client q9 ![q9].contains q8)) (c.text=Str.mk [])) c.kind) (8:Int)):=by kernel_rfl
theorem Es (c:Command):Sat Try.prog (au aJ) 47 [.agg (cellsOf (.nm .command) c)] [] ⟨[],[.c (.bool (.atom ((ea c))))],none,false⟩:=by
 refine aU oo [] Try.func47 (by decide) (by kernel_rfl) ?_
 rw [Fa]
 simp only [Ha]
 (repeat' (first | with_reducible refine And.intro ?_ ?_ | with_reducible refine and_imp.2 ?_ | intro))
 all_goals ((unfold ea Hg Ht; simp_all) <;> (intros; omega))
theorem Cu (s:State) (v:Int) (r0:Bool):dq aJ Dd [] Try.f44 [.agg (cellsOf (.nm .state) s),.c (.int (v))] [] [.c (.bool (.atom (r0)))]=((fun (q1:Nat)=>(fun (q0:Int)=>I64 s.version->I64 s.next->I64 s.keep->I64 s.quota->s.sess.length*(32:Nat)<=(140737488355328:Nat)->s.opens.length*(16:Nat)<=(140737488355328:Nat)->q1*(64:Nat)<=(140737488355328:Nat)->I64 v->((↑q1:Int)<=(16:Int)->I64 q0/\q0<=(1048576:Int))/\((16:Int)<(↑q1:Int)\/ak Snap.id q0 (0:Int) s.snaps=false->false=r0)/\((↑q1:Int)<=(16:Int)/\ak Snap.id q0 (0:Int) s.snaps=true->(v<(3:Int)->s.snaps.all (bj v (0:Int))=r0)/\((3:Int)<=v->s.snaps.all (bj v (16:Int))=r0))) (s.next - (1:Int))) s.snaps.length):=by kernel_rfl
theorem De (s:State) (v:Int) (h0:1<=s.next/\s.next<=1048576):Sat Try.prog (au aJ) 44 [.agg (cellsOf (.nm .state) s),.c (.int (v))] [] ⟨[1<=s.next/\s.next<=1048576],[.c (.bool (.atom ((dw s v))))],none,false⟩:=by
 refine aU oo [] Try.func44 (by decide) (by kernel_rfl) ?_
 rw [Cu]
 (repeat' (first | with_reducible refine And.intro ?_ ?_ | with_reducible refine and_imp.2 ?_ | intro))
 all_goals (first | (first | with_reducible rfl | with_reducible assumption | omega | (refine al ?_ ?_ <;> omega)) | ((simp only [dw,dE]; simp_all) <;> (intros; omega)) | (simp only [dw,dE]; grind))
def Cn:cJ:=(bW 44 (bQ (aj (kT (.nm .state)) (aj (kC cI) aP)) aO fun (s,v,_) (_)=>⟨[1<=s.next/\s.next<=1048576],[.c (.bool (.atom ((dw s v))))],none,false⟩) (bW 47 (bQ (aj (kT (.nm .command)) aP) aO fun (c,_) (_)=>⟨[],[.c (.bool (.atom ((ea c))))],none,false⟩) Dd))
theorem ou:aR Try.prog (au aJ) Cn:=(aC (aB (ae bN (ae (aw ax) ao)) aq fun (s,v,_) (_) hp=>De s v (fh hp)) (aC (aB (ae bN ao) aq fun (c,_) (_) _=>Es c ) oo))
end Go.Proofs.Ytdggohppeeaipaa
namespace Go.Proofs.Ytdggohppeeaipaa
open Go.RowKit
def cP (s:State) (at_:Nat) (k:Nat):Int:=(((s.snaps.drop (at_+1)).take k).filter fun x=>decide (x.set=(s.snaps.getD at_ (dflt (.nm .snap))).set)).length
def iF (s:State) (at_:Int):Bool:=if at_<0\/(s.snaps.length:Int)<=at_ then false else decide (cP s at_.toNat s.snaps.length<s.keep)
def nch (l:List Snap):Nat:=(l.flatMap Snap.chunks).length
def pt (c:Int) (l:List Snap):Nat:=(l.flatMap Snap.chunks).count c
def aZ (id:Int) (l:List Snap):List Snap:=l.filter fun x=>!decide (x.id=id)
theorem gd {α:Type} {l:List α} {k:Nat} {d:α} (h:(k:Int)<l.length):l[k]? = some (l.getD k d):=by
 have hk:k<l.length:=by omega
 rw [List.getD_eq_getElem?_getD,List.getElem?_eq_getElem hk]; rfl
theorem sA {s:State} {a:Nat}:0=cP s a 0:=by simp [cP]
theorem Bd {s:State} {a k:Nat}:cP s a k<=(k:Int):=by
 have h1:=List.length_filter_le (fun x:Snap=>decide (x.set=(s.snaps.getD a (dflt (.nm .snap))).set)) ((s.snaps.drop (a+1)).take k)
 have h2:((s.snaps.drop (a+1)).take k).length<=k:=by rw [List.length_take]; omega
 unfold cP; omega
theorem B_ {s:State} {a k:Nat}:0<=cP s a k:=by unfold cP; omega
theorem sN {s:State} {a k:Nat} (h:a+1+k<=s.snaps.length) (h2:s.snaps.length*64<=140737488355328):I64 (cP s a k+1):=by
 have h1:=Bd (s:=s) (a:=a) (k:=k)
 have h0:=B_ (s:=s) (a:=a) (k:=k)
 constructor <;> omega
theorem sr {s:State} {a k:Nat} {x:Snap} (hx:(s.snaps.drop (a+1))[k]? = some x) (h:x.set=(s.snaps.getD a (dflt (.nm .snap))).set):cP s a k+1=cP s a (k+1):=by
 unfold cP
 rw [aF hx,List.filter_append,List.length_append]
 simp [h]
theorem tn {s:State} {a k:Nat} {x:Snap} (hx:(s.snaps.drop (a+1))[k]? = some x) (h:¬ x.set=(s.snaps.getD a (dflt (.nm .snap))).set):cP s a k=cP s a (k+1):=by
 unfold cP
 rw [aF hx,List.filter_append,List.length_append]
 rw [show List.filter (fun x:Snap=>decide (x.set=(s.snaps.getD a (dflt (.nm .snap))).set)) [x]=[] by simp only [List.filter_cons,h,decide_false,List.filter_nil]; rfl]
 simp
theorem lX {s:State} {a:Int} {k:Nat} (h0:0<=a) (ha:a<s.snaps.length) (h:(s.snaps.length:Int)<=a+1+k):decide (cP s a.toNat k<s.keep)=iF s a:=by
 unfold iF
 rw [if_neg (by omega)]
 have e:∀ m:Nat,(s.snaps.length:Int)<=a+1+m->cP s a.toNat m=cP s a.toNat s.snaps.length:=fun m hm=>by
  unfold cP
  rw [List.take_of_length_le (by rw [List.length_drop]; omega),List.take_of_length_le (by rw [List.length_drop]; omega)]
 rw [e k h]
theorem mN {s:State} {a:Int} (h:a<0\/(s.snaps.length:Int)<=a):false=iF s a:=by unfold iF; rw [if_pos h]
theorem AY {id:Int} {l:List Snap} {k:Nat} {x y:Snap} (h:¬ x.id=id) (hx:l[k]? = some x) (hy:l[k]? = some y):aZ id (l.take k)++[y]=aZ id (l.take (k+1)):=by
 rw [hx] at hy; cases hy
 unfold aZ; rw [aF hx,List.filter_append]; simp [h]
theorem zy {id:Int} {l:List Snap} {k:Nat} {x:Snap} (hx:l[k]? = some x) (h:x.id=id):aZ id (l.take k)=aZ id (l.take (k+1)):=by
 unfold aZ; rw [aF hx,List.filter_append]; simp [h]
theorem sk {id:Int} {l:List Snap} {k:Nat} (h:(l.length:Int)<=k):aZ id (l.take k)=aZ id l:=by rw [List.take_of_length_le (by omega)]
theorem sw {id:Int} {l:List Snap} {k:Nat} {x:Snap} (h:(k:Int)<l.length) (hl:l.length*64<=140737488355328):((aZ id (l.take k)).length+[x].length)*64<=140737488355328:=by
 have h1:=List.length_filter_le (fun x:Snap=>!decide (x.id=id)) (l.take k)
 rw [List.length_take] at h1
 unfold aZ
 simp only [List.length_cons,List.length_nil]
 omega
theorem nN {n k s:Nat} {m:Nat} (h:k=(s,m).1) (hk:k<n):n - (k+1)<n - s:=by dsimp only at h; omega
def qU (st:State) (x:Int):List (Nat × LI):=[(2,{ σ:=Nat,F:=fun k=>([(1,one (.int (x))),(2,one (.ptr 0 0)),(5,one (.int k))],[.box 29 (cellsOf (.nm .state) ((st)))]),J:=fun k=>k<=st.sess.length/\ag Sess.client x (st.sess.take k) = -1,μ:=fun k=>st.sess.length - k })]
def DT (st:State) (at_:Int):List (Nat × LI):=[(5,{ σ:=Nat,F:=fun k=>([(1,one (.int (at_))),(2,one (.ptr 0 0)),(5,one (.int (cP st at_.toNat k))),(21,one (.fz (.nm .snap) (st.snaps.drop (at_+1).toNat))),(22,one (.int (st.snaps.drop (at_+1).toNat).length)),(23,one (.int k))],[.box 29 (cellsOf (.nm .state) ((st)))]),J:=fun k=>at_.toNat+1+k<=st.snaps.length/\0<=at_,μ:=fun k=>st.snaps.length - k })]
theorem vn (st:State) (x:Int) (r0:Int):dq aJ Cn (qU st x) Try.f9 [.agg (cellsOf (.nm .state) st),.c (.int (x))] [] [.c (.int (r0))]=((fun (q2:Int)=>(fun (q1:List Sess)=>(fun (q0:Prop)=>I64 st.version->I64 st.next->I64 st.keep->I64 st.quota->q1.length*(32:Nat)<=(140737488355328:Nat)->st.opens.length*(16:Nat)<=(140737488355328:Nat)->st.snaps.length*(64:Nat)<=(140737488355328:Nat)->I64 x->∃ (s0:Nat),(x=x/\(0:Int)=(↑s0:Int)/\q0)/\(s0<=q1.length/\ag Sess.client x (List.take s0 q1) = -q2)/\∀ (s:Nat),s<=q1.length/\ag Sess.client x (List.take s q1) = -q2->((↑s:Int)<(↑q1.length:Int)->(0:Int)<=(↑s:Int)/\(↑s:Int)<(↑q1.length:Int)/\∀ (x_1:Sess),q1[s]? = some x_1->I64 x_1.client->I64 x_1.seq->I64 x_1.last.code->I64 x_1.last.n->(x_1.client=x->(↑s:Int)=r0)/\(¬x_1.client=x->I64 ((↑s:Int)+q2)/\∃ (s':Nat),(x=x/\(↑s:Int)+q2=(↑s':Int)/\q0)/\(s' <= q1.length/\ag Sess.client x (List.take s' q1) = -q2)/\q1.length - s' < q1.length - s))/\((↑q1.length:Int)<=(↑s:Int) -> -q2=r0)) (st.version=st.version/\st.next=st.next/\st.keep=st.keep/\st.quota=st.quota/\q1=q1/\st.opens=st.opens/\st.snaps=st.snaps)) st.sess) (1:Int)):=by kernel_rfl
theorem vD (st:State) (x:Int):Sat Try.prog (au aJ) 9 [.agg (cellsOf (.nm .state) st),.c (.int (x))] [] ⟨[],[.c (.int ((ag Sess.client x st.sess)))],none,false⟩:=by
 refine aU ou (qU st x) Try.func9 (by decide) (by kernel_rfl) ?_
 rw [vn]
 (repeat' (first | with_reducible refine And.intro ?_ ?_ | with_reducible refine and_imp.2 ?_ | intro))
 all_goals try (first | (first | with_reducible rfl | with_reducible assumption | omega | (refine al ?_ ?_ <;> omega)) | exact (c_ (key:=Sess.client)) | exact (cd (key:=Sess.client) (by with_reducible assumption) (by with_reducible assumption) (by with_reducible assumption)) | exact (cE (key:=Sess.client) (by with_reducible assumption) (by omega)) | exact (cD (key:=Sess.client) (by with_reducible assumption) (by with_reducible assumption) (by with_reducible assumption)))
 all_goals try (refine ⟨0,?_⟩; (repeat' (first | with_reducible refine And.intro ?_ ?_ | with_reducible refine and_imp.2 ?_ | intro)))
 all_goals try (first | (first | with_reducible rfl | with_reducible assumption | omega | (refine al ?_ ?_ <;> omega)) | exact (c_ (key:=Sess.client)) | exact (cd (key:=Sess.client) (by with_reducible assumption) (by with_reducible assumption) (by with_reducible assumption)) | exact (cE (key:=Sess.client) (by with_reducible assumption) (by omega)) | exact (cD (key:=Sess.client) (by with_reducible assumption) (by with_reducible assumption) (by with_reducible assumption)))
 all_goals try (refine ⟨‹Nat› + 1,?_⟩; (repeat' (first | with_reducible refine And.intro ?_ ?_ | with_reducible refine and_imp.2 ?_ | intro)))
 all_goals (first | (first | with_reducible rfl | with_reducible assumption | omega | (refine al ?_ ?_ <;> omega)) | exact (c_ (key:=Sess.client)) | exact (cd (key:=Sess.client) (by with_reducible assumption) (by with_reducible assumption) (by with_reducible assumption)) | exact (cE (key:=Sess.client) (by with_reducible assumption) (by omega)) | exact (cD (key:=Sess.client) (by with_reducible assumption) (by with_reducible assumption) (by with_reducible assumption)))
theorem Ec (st:State) (at_:Int) (r0:Bool):dq aJ Cn (DT st at_) Try.f86 [.agg (cellsOf (.nm .state) st),.c (.int (at_))] [] [.c (.bool (.atom (r0)))]=((fun (q8:Int)=>(fun (q7:Nat)=>(fun (q6:den (Sh.nm NT.snap))=>(fun (q5:Int)=>(fun (q4:Prop)=>(fun (q3:Nat)=>(fun (q2:List Snap)=>(fun (q1:Nat)=>(fun (q0:Prop)=>I64 st.version->I64 st.next->I64 st.keep->I64 st.quota->st.sess.length*(32:Nat)<=q7->st.opens.length*(16:Nat)<=q7->q2.length*(64:Nat)<=q7->I64 at_->(at_<q8\/(↑q2.length:Int)<=at_->false=r0)/\(q4/\at_<(↑q2.length:Int)->I64 (at_+q5)/\q8<=at_+q5/\at_+q5<=(↑q2.length:Int)/\∃ (s0:Nat),(fun (q13:Nat)=>(fun (q12:Nat)=>(fun (q11:den (Sh.nm NT.snap))=>(fun (q10:List (den (Sh.nm NT.snap)))=>(fun (q9:Int)=>(at_=at_/\q8=cP st q3 s0/\q10=q10/\(↑q10.length:Int)=q9/\q8=(↑s0:Int)/\q0)/\(q13+s0<=q12/\q4)/\∀ (s:Nat),(fun (q15:Int)=>(fun (q14:Int)=>q13+s<=q12/\q4->((↑s:Int)<q9->q8<=(↑s:Int)/\(↑s:Int)<(↑q10.length:Int)/\∀ (x:Snap),q10[s]? = some x->I64 x.id->I64 x.set->x.chunks.length*(8:Nat)<=q7->x.tag.b.length<=q7->q4/\at_<(↑q2.length:Int)/\(I64 q11.id->I64 q11.set->q11.chunks.length*(8:Nat)<=q7->q11.tag.b.length<=q7->(x.set=q11.set->I64 (q15+q5)/\I64 q14/\∃ (s':Nat),(at_=at_/\q15+q5=cP st q3 s' /\ q10=q10/\q9=q9/\q14=(↑s':Int)/\q0)/\(q13+s' <= q12/\q4)/\q12 - s' < q12 - s)/\(¬x.set=q11.set->I64 q14/\∃ (s':Nat),(at_=at_/\q15=cP st q3 s' /\ q10=q10/\q9=q9/\q14=(↑s':Int)/\q0)/\(q13+s' <= q12/\q4)/\q12 - s' < q12 - s)))/\(q9<=(↑s:Int)->decide (q15<st.keep)=r0)) ((↑s:Int)+q5)) (cP st q3 s)) (↑(List.drop q1 q2).length:Int)) (List.drop q1 q2)) (q2.getD q3 q6)) q2.length) (q3+(1:Nat)))) (st.version=st.version/\st.next=st.next/\st.keep=st.keep/\st.quota=st.quota/\st.sess=st.sess/\st.opens=st.opens/\q2=q2)) (at_+q5).toNat) st.snaps) at_.toNat) (q8<=at_)) (1:Int)) (dflt (Sh.nm NT.snap))) (140737488355328:Nat)) (0:Int)):=by kernel_rfl
theorem DW (st:State) (at_:Int):Sat Try.prog (au aJ) 86 [.agg (cellsOf (.nm .state) st),.c (.int (at_))] [] ⟨[],[.c (.bool (.atom ((iF st at_))))],none,false⟩:=by
 refine aU ou (DT st at_) Try.func86 (by decide) (by kernel_rfl) ?_
 rw [Ec]
 (repeat' (first | with_reducible refine And.intro ?_ ?_ | with_reducible refine and_imp.2 ?_ | intro))
 all_goals try (first | (first | with_reducible rfl | with_reducible assumption | omega | (refine al ?_ ?_ <;> omega)) | exact sA | exact (mN (by assumption)) | exact (sN (by omega) (by omega)) | exact (lX (by omega) (by omega) (by rw [List.length_drop] at *; omega)) | exact (sr (by rw [show (at_+1).toNat=at_.toNat+1 by omega] at *; assumption) (by with_reducible assumption)) | exact (by have:=‹_<((List.length (List.drop _ _):Nat):Int)›; rw [List.length_drop] at this; omega) | exact (tn (by rw [show (at_+1).toNat=at_.toNat+1 by omega] at *; assumption) (by with_reducible assumption)))
 all_goals try (refine ⟨0,?_⟩; (repeat' (first | with_reducible refine And.intro ?_ ?_ | with_reducible refine and_imp.2 ?_ | intro)))
 all_goals try (first | (first | with_reducible rfl | with_reducible assumption | omega | (refine al ?_ ?_ <;> omega)) | exact sA | exact (mN (by assumption)) | exact (sN (by omega) (by omega)) | exact (lX (by omega) (by omega) (by rw [List.length_drop] at *; omega)) | exact (sr (by rw [show (at_+1).toNat=at_.toNat+1 by omega] at *; assumption) (by with_reducible assumption)) | exact (by have:=‹_<((List.length (List.drop _ _):Nat):Int)›; rw [List.length_drop] at this; omega) | exact (tn (by rw [show (at_+1).toNat=at_.toNat+1 by omega] at *; assumption) (by with_reducible assumption)))
 all_goals try (refine ⟨‹Nat› + 1,?_⟩; (repeat' (first | with_reducible refine And.intro ?_ ?_ | with_reducible refine and_imp.2 ?_ | intro)))
 all_goals (first | (first | with_reducible rfl | with_reducible assumption | omega | (refine al ?_ ?_ <;> omega)) | exact sA | exact (mN (by assumption)) | exact (sN (by omega) (by omega)) | exact (lX (by omega) (by omega) (by rw [List.length_drop] at *; omega)) | exact (sr (by rw [show (at_+1).toNat=at_.toNat+1 by omega] at *; assumption) (by with_reducible assumption)) | exact (by have:=‹_<((List.length (List.drop _ _):Nat):Int)›; rw [List.length_drop] at this; omega) | exact (tn (by rw [show (at_+1).toNat=at_.toNat+1 by omega] at *; assumption) (by with_reducible assumption)))
def wN:cJ:=(bW 86 (bQ (aj (kT (.nm .state)) (aj (kC cI) aP)) aO fun (st,at_,_) (_)=>⟨[],[.c (.bool (.atom ((iF st at_))))],none,false⟩) (bW 9 (bQ (aj (kT (.nm .state)) (aj (kC cI) aP)) aO fun (st,x,_) (_)=>⟨[],[.c (.int ((ag Sess.client x st.sess)))],none,false⟩) Cn))
theorem ir:aR Try.prog (au aJ) wN:=(aC (aB (ae bN (ae (aw ax) ao)) aq fun (st,at_,_) (_) _=>DW st at_ ) (aC (aB (ae bN (ae (aw ax) ao)) aq fun (st,x,_) (_) _=>vD st x ) ou))
end Go.Proofs.Ytdggohppeeaipaa
namespace Go.Proofs.Ytdggohppeeaipaa
open Go.RowKit
theorem sC {α:Type} {l:List α} {k:Nat} {d:α} (h:(k:Int)<l.length):l.set k (l.getD k d)=l:=by
 have hk:k<l.length:=by omega
 rw [List.getD_eq_getElem?_getD,List.getElem?_eq_getElem hk]; exact List.set_getElem_self hk
def n_ (l:List Snap) (k:Nat):Nat:=((List.range k).filter fun (i:Nat)=>decide (0<pt ((i:Int)+1) l)).length
def distF (l:List Snap):Nat:=n_ l 64
theorem BR {l:List Snap} {k:Nat}:n_ l k<=k:=by
 unfold n_; refine Nat.le_trans (List.length_filter_le _ _) ?_; simp
def AL (st:State):List (Nat × LI):=[(5,{ σ:=Nat,F:=fun k=>([(1,one (.ptr 0 0)),(2,one (.ptr 1 0)),(18,one (.int st.snaps.length)),(19,one (.int k))],[.box 29 ([.int ((st.version)),.int ((st.next)),.int ((st.keep)),.int ((st.quota)),.own 2,.own 3,.own 4]),.box 29 ([.int ((0)),.int ((0)),.int ((0)),.int ((0)),.em true,.em true,.em true]),.row 40 (.nm .sess) ((st.sess)),.row 48 (.nm .opn) ((st.opens)),.row 59 (.nm .snap) ((st.snaps))]),J:=fun k=>k<=st.snaps.length,μ:=fun k=>st.snaps.length - k })]
theorem Fm (st:State) (v:Int) (r0:Int):dq aJ wN [] Try.f28 [.agg (cellsOf (.nm .state) st),.c (.int (v))] [] [.c (.int (r0))]=((fun (q12:Int)=>(fun (q11:Bool)=>(fun (q10:Bool)=>(fun (q9:Int)=>(fun (q8:Int)=>(fun (q7:Int)=>(fun (q6:Int)=>(fun (q5:Int)=>(fun (q4:Int)=>(fun (q3:Prop)=>(fun (q2:Prop)=>(fun (q1:Prop)=>(fun (q0:Prop)=>I64 st.version->I64 q12->I64 st.keep->I64 q8->st.sess.length*(32:Nat)<=(140737488355328:Nat)->st.opens.length*(16:Nat)<=(140737488355328:Nat)->st.snaps.length*(64:Nat)<=(140737488355328:Nat)->I64 v->(cw v q6 q9=false->q6=r0)/\(cw v q6 q9=true->(v<q9->q5<=q7/\q5<=q7/\(((q0/\cw q8 q4 q4=true)/\q1)/\q2->q6<=q12/\q12<=q7)/\((((q3\/cw q8 q4 q4=false)\/ak Sess.client q5 q4 st.sess=false\/q11=false)\/ak Opn.set q5 q4 st.opens=false\/q10=false)\/dw st v=false->(6:Int)=r0)/\((((q0/\cw q8 q4 q4=true)/\q1)/\q2)/\dw st v=true->q4=r0))/\(q9<=v->q5<=q7/\q5<=q7/\(((q0/\cw q8 q4 (64:Int)=true)/\q1)/\q2->q6<=q12/\q12<=q7)/\((((q3\/cw q8 q4 (64:Int)=false)\/ak Sess.client q5 q4 st.sess=false\/q11=false)\/ak Opn.set q5 q4 st.opens=false\/q10=false)\/dw st v=false->(6:Int)=r0)/\((((q0/\cw q8 q4 (64:Int)=true)/\q1)/\q2)/\dw st v=true->q4=r0)))) ((cw st.version q6 q9=true/\cw q12 q6 q7=true)/\cw st.keep q4 q5=true)) (ak Sess.client q5 q4 st.sess=true/\q11=true)) (ak Opn.set q5 q4 st.opens=true/\q10=true)) ((cw st.version q6 q9=false\/cw q12 q6 q7=false)\/cw st.keep q4 q5=false)) (0:Int)) (8:Int)) (1:Int)) (1048576:Int)) st.quota) (3:Int)) (st.opens.all bO)) (st.sess.all bF)) st.next):=by kernel_rfl
theorem Ee (st:State) (v:Int):Sat Try.prog (au aJ) 28 [.agg (cellsOf (.nm .state) st),.c (.int (v))] [] ⟨[],[.c (.int ((mayF st v)))],none,false⟩:=by
 refine aU ir [] Try.func28 (by decide) (by kernel_rfl) ?_
 rw [Fm]
 (repeat' (first | with_reducible refine And.intro ?_ ?_ | with_reducible refine and_imp.2 ?_ | intro))
 all_goals (first | (first | with_reducible rfl | with_reducible assumption | omega | (refine al ?_ ?_ <;> omega)) | exact (oR (a:=1) (b:=1048576) (by with_reducible assumption)).1 | exact (oR (a:=1) (b:=1048576) (by with_reducible assumption)).2 | (simp only [mayF,cY,mO,jn]; grind))
theorem CQ (c:Command) (v:Int) (r0:Int):dq aJ wN [] Try.f29 [.agg (cellsOf (.nm .command) c),.c (.int (v))] [] [.c (.int (r0))]=((fun (q0:Int)=>I64 c.kind->I64 c.client->I64 c.seq->I64 c.set->I64 c.id->I64 c.n->c.chunks.length*(8:Nat)<=(140737488355328:Nat)->c.text.b.length<=(140737488355328:Nat)->I64 v->I64 q0->(jh v=false\/q0=(0:Int)->(1:Int)=r0)/\(jh v=true/\¬q0=(0:Int)->(v<q0->(10:Int)=r0)/\(q0<=v->(ea c=false->(1:Int)=r0)/\(ea c=true->(0:Int)=r0)))) (fI c.kind)):=by kernel_rfl
theorem BG (c:Command) (v:Int):Sat Try.prog (au aJ) 29 [.agg (cellsOf (.nm .command) c),.c (.int (v))] [] ⟨[],[.c (.int ((bM c v)))],none,false⟩:=by
 refine aU ir [] Try.func29 (by decide) (by kernel_rfl) ?_
 rw [CQ]
 rw [show jh v=cw v 1 3 from rfl]
 (repeat' (first | with_reducible refine And.intro ?_ ?_ | with_reducible refine and_imp.2 ?_ | intro))
 all_goals (first | (first | with_reducible rfl | with_reducible assumption | omega | (refine al ?_ ?_ <;> omega)) | (simp only [bM]; grind))
theorem Cs (st:State) (r0:Int) (r1:Int) (r2:Int) (r3:Int) (r4:List Sess) (r5:List Opn) (r6:List Snap):th aJ wN (AL st) Try.f14 [.agg (cellsOf (.nm .state) st)] [] [.agg ([.int (r0),.int (r1),.int (r2),.int (r3),.own 0,.own 1,.own 2])] [.row 40 (.nm .sess) (r4),.row 48 (.nm .opn) (r5),.row 59 (.nm .snap) (r6)]=((fun (q4:Int)=>(fun (q3:Nat)=>(fun (q2:den (Sh.nm NT.snap))=>(fun (q1:Prop)=>(fun (q0:List Snap)=>I64 q4->I64 st.next->I64 st.keep->I64 st.quota->st.sess.length*(32:Nat)<=q3->st.opens.length*(16:Nat)<=q3->q0.length*(64:Nat)<=q3->∃ (s0:Nat),(fun (q5:Nat)=>((↑q0.length:Int)=(↑q5:Int)/\(0:Int)=(↑s0:Int)/\q4=q4/\st.next=st.next/\st.keep=st.keep/\st.quota=st.quota/\q1/\q1/\q1/\q1/\st.sess=st.sess/\st.opens=st.opens/\q0=q0)/\s0<=q5/\∀ (s:Nat),(fun (q7:den (Sh.nm NT.snap))=>(fun (q6:Prop)=>s<=q5->((↑s:Int)<(↑q5:Int)->(0:Int)<=(↑s:Int)/\(↑s:Int)<(↑q0.length:Int)/\(0:Int)<=(↑s:Int)/\(↑s:Int)<(↑q0.length:Int)/\(I64 q7.id->I64 q7.set->q6->q7.tag.b.length<=q3->q6->I64 q7.id->I64 q7.set->q6->q7.tag.b.length<=q3->I64 ((↑s:Int)+(1:Int))/\∃ (s':Nat),((↑q5:Int)=(↑q5:Int)/\(↑s:Int)+(1:Int)=(↑s':Int)/\q4=q4/\st.next=st.next/\st.keep=st.keep/\st.quota=st.quota/\q1/\q1/\q1/\q1/\st.sess=st.sess/\st.opens=st.opens/\q0.set s q7=q0)/\s' <= q5/\q5 - s' < q5 - s))/\((↑q5:Int)<=(↑s:Int)->q4=r0/\st.next=r1/\st.keep=r2/\st.quota=r3/\st.sess=r4/\st.opens=r5/\q0=r6)) (q7.chunks.length*(8:Nat)<=q3)) (q0.getD s q2)) q0.length) st.snaps) ((0:Int)=(0:Int))) (dflt (Sh.nm NT.snap))) (140737488355328:Nat)) st.version):=by kernel_rfl
theorem Bh (st:State):Sat Try.prog (au aJ) 14 [.agg (cellsOf (.nm .state) st)] [] ⟨[],[.agg ([.int ((st.version)),.int ((st.next)),.int ((st.keep)),.int ((st.quota)),.own 0,.own 1,.own 2])],some ([.row 40 (.nm .sess) ((st.sess)),.row 48 (.nm .opn) ((st.opens)),.row 59 (.nm .snap) ((st.snaps))]),true⟩:=by
 refine eH ir (AL st) Try.func14 (by decide) (by kernel_rfl) ?_
 rw [Cs]
 (repeat' (first | with_reducible refine And.intro ?_ ?_ | with_reducible refine and_imp.2 ?_ | intro))
 all_goals try (first | (first | with_reducible rfl | with_reducible assumption | omega | (refine al ?_ ?_ <;> omega)) | exact rfl | exact (sC (by omega)))
 all_goals try (refine ⟨0,?_⟩; (repeat' (first | with_reducible refine And.intro ?_ ?_ | with_reducible refine and_imp.2 ?_ | intro)))
 all_goals try (first | (first | with_reducible rfl | with_reducible assumption | omega | (refine al ?_ ?_ <;> omega)) | exact rfl | exact (sC (by omega)))
 all_goals try (refine ⟨‹Nat› + 1,?_⟩; (repeat' (first | with_reducible refine And.intro ?_ ?_ | with_reducible refine and_imp.2 ?_ | intro)))
 all_goals (first | (first | with_reducible rfl | with_reducible assumption | omega | (refine al ?_ ?_ <;> omega)) | exact rfl | exact (sC (by omega)))
theorem Cc (x:Snap) (y:Snap) (r0:Bool):dq aJ wN [] Try.f27 [.agg (cellsOf (.nm .snap) x),.agg (cellsOf (.nm .snap) y)] [] [.c (.bool (.atom (r0)))]=(I64 x.id->I64 x.set->x.chunks.length*(8:Nat)<=(140737488355328:Nat)->x.tag.b.length<=(140737488355328:Nat)->I64 y.id->I64 y.set->y.chunks.length*(8:Nat)<=(140737488355328:Nat)->y.tag.b.length<=(140737488355328:Nat)->(decide (x.chunks=y.chunks) && decide (x.id=y.id) && decide (x.set=y.set) && x.held == y.held && decide (x.tag=y.tag))=r0):=by kernel_rfl
theorem Cp (x:Snap) (y:Snap):Sat Try.prog (au aJ) 27 [.agg (cellsOf (.nm .snap) x),.agg (cellsOf (.nm .snap) y)] [] ⟨[],[.c (.bool (.atom ((decide (x=y)))))],none,false⟩:=by
 refine aU ir [] Try.func27 (by decide) (by kernel_rfl) ?_
 rw [Cc]
 intros; cases x; cases y; simp only [Snap.mk.injEq]; grind
def pU:cJ:=(bW 27 (bQ (aj (kT (.nm .snap)) (aj (kT (.nm .snap)) aP)) aO fun (x,y,_) (_)=>⟨[],[.c (.bool (.atom ((decide (x=y)))))],none,false⟩) (bW 14 (bQ (aj (kT (.nm .state)) aP) aO fun (st,_) (_)=>⟨[],[.agg ([.int ((st.version)),.int ((st.next)),.int ((st.keep)),.int ((st.quota)),.own 0,.own 1,.own 2])],some ([.row 40 (.nm .sess) ((st.sess)),.row 48 (.nm .opn) ((st.opens)),.row 59 (.nm .snap) ((st.snaps))]),true⟩) (bW 29 (bQ (aj (kT (.nm .command)) (aj (kC cI) aP)) aO fun (c,v,_) (_)=>⟨[],[.c (.int ((bM c v)))],none,false⟩) (bW 28 (bQ (aj (kT (.nm .state)) (aj (kC cI) aP)) aO fun (st,v,_) (_)=>⟨[],[.c (.int ((mayF st v)))],none,false⟩) wN))))
theorem iQ:aR Try.prog (au aJ) pU:=(aC (aB (ae bN (ae bN ao)) aq fun (x,y,_) (_) _=>Cp x y ) (aC (aB (ae bN ao) aq fun (st,_) (_) _=>Bh st ) (aC (aB (ae bN (ae (aw ax) ao)) aq fun (c,v,_) (_) _=>BG c v ) (aC (aB (ae bN (ae (aw ax) ao)) aq fun (st,v,_) (_) _=>Ee st v ) ir))))
end Go.Proofs.Ytdggohppeeaipaa
namespace Go.Proofs.Ytdggohppeeaipaa
open Go.RowKit
def iE (l:List Snap) (id:Int) (k:Nat):List Int:=((List.range k).filter fun (i:Nat)=>decide (0<pt ((i:Int)+1) l) && decide (pt ((i:Int)+1) (aZ id l)=0)).map fun (i:Nat)=>(i:Int)+1
def cK (xs:List Int) (l:List Int):List Int:=l.foldl (fun xs n=>if 1<=n/\n<=64 then xs.set n.toNat (xs.getD n.toNat 0+1) else xs) xs
theorem xX {a b:List Snap} {k:Nat} (h:a.take k=b.take k) (e:decide (a.getD k (dflt (.nm .snap))=b.getD k (dflt (.nm .snap)))=true) (hk:(k:Int)<a.length) (hb:(k:Int)<b.length):a.take (k+1)=b.take (k+1):=tX h (by omega) (by omega) (of_decide_eq_true e)
theorem yt {a b:List Snap} {k:Nat} (e:decide (a.getD k (dflt (.nm .snap))=b.getD k (dflt (.nm .snap)))=false) (_:(k:Int)<a.length) (_:(k:Int)<b.length):false=decide (a=b):=by
 symm; apply decide_eq_false; rintro rfl; simp at e
theorem EH {l:List Snap} {id:Int} (h:nch l<=1048576):nch (aZ id l)<=1048576:=by
 refine Nat.le_trans ?_ h
 unfold nch aZ
 induction l with
 | nil=>exact Nat.le_refl _
 | cons x l ih=>
  have hl:(l.flatMap Snap.chunks).length<=1048576:=by unfold nch at h; rw [List.flatMap_cons,List.length_append] at h; omega
  have:=ih hl
  rw [List.filter_cons,List.flatMap_cons,List.length_append]
  split
  ·rw [List.flatMap_cons,List.length_append]; omega
  ·omega
def fo (l:List Snap) (id:Int):List Int:=iE l id 64
def nH (xs l:List Int):Prop:=∀ i,0<=xs.getD i 0/\xs.getD i 0+l.length<=4611686018427387904
theorem qI {xs:List Int} {i j:Nat} {v:Int}:(xs.set j v).getD i 0=if j=i/\j<xs.length then v else xs.getD i 0:=by
 rw [List.getD_eq_getElem?_getD,List.getElem?_set,List.getD_eq_getElem?_getD]
 by_cases h:j=i
 ·subst h
  by_cases h2:j<xs.length
  ·simp [h2]
  ·simp [h2]
 ·simp [h]
theorem sG:∀ (l xs:List Int) (i:Nat),xs.getD i 0<=(cK xs l).getD i 0/\(cK xs l).getD i 0<=xs.getD i 0+l.length
 | [],xs,i=>by simp [cK]
 | n :: l,xs,i=>by
  have h:=sG l (if 1<=n/\n<=64 then xs.set n.toNat (xs.getD n.toNat 0+1) else xs) i
  have e:cK xs (n :: l)=cK (if 1<=n/\n<=64 then xs.set n.toNat (xs.getD n.toNat 0+1) else xs) l:=rfl
  rw [e]
  have h2:xs.getD i 0<=(if 1<=n/\n<=64 then xs.set n.toNat (xs.getD n.toNat 0+1) else xs).getD i 0/\(if 1<=n/\n<=64 then xs.set n.toNat (xs.getD n.toNat 0+1) else xs).getD i 0<=xs.getD i 0+1:=by
   split
   ·rw [qI]; split
    ·rename_i h3; rw [h3.1]; omega
    ·omega
   ·omega
  rw [List.length_cons]; omega
theorem qZ {xs l:List Int} {k:Nat} {n:Int} (hx:l[k]? = some n):cK xs (l.take (k+1))=if 1<=n/\n<=64 then (cK xs (l.take k)).set n.toNat ((cK xs (l.take k)).getD n.toNat 0+1) else cK xs (l.take k):=by
 rw [aF hx,cK,List.foldl_append]; rfl
theorem Ai {xs l:List Int} {k:Nat} {n:Int} (hx:l[k]? = some n) (h:1<=n/\n<=64):(cK xs (l.take k)).set n.toNat ((cK xs (l.take k)).getD n.toNat (dflt .int)+1)=cK xs (l.take (k+1)):=by rw [qZ hx,if_pos h]; rfl
theorem Ah {xs l:List Int} {k:Nat} {n:Int} (hx:l[k]? = some n) (h:¬ (1<=n/\n<=64)):cK xs (l.take k)=cK xs (l.take (k+1)):=by rw [qZ hx,if_neg h]
theorem zM {xs l:List Int} {k:Nat} {n:Int} (h:nH xs l):I64 ((cK xs (l.take k)).getD n.toNat (dflt .int)+1):=by
 have h1:=sG (l.take k) xs n.toNat
 have h2:=h n.toNat
 rw [List.length_take] at h1
 show I64 ((cK xs (l.take k)).getD n.toNat 0+1)
 constructor <;> omega
theorem FD {l:List Snap} {id:Int} {k:Nat} {n:Int} (h:k<=64):((iE l id k).length+[n].length)*8<=140737488355328:=by
 unfold iE
 have:=List.length_filter_le (fun (i:Nat)=>decide (0<pt ((i:Int)+1) l) && decide (pt ((i:Int)+1) (aZ id l)=0)) (List.range k)
 rw [List.length_range] at this
 rw [List.length_map]; simp only [List.length_cons,List.length_nil]; omega
def nL (a:List Snap) (b:List Snap):List (Nat × LI):=[(4,{ σ:=Nat,F:=fun k=>([(0,one (.fz (.nm .snap) (a))),(1,one (.fz (.nm .snap) (b))),(5,one (.int k))],[]),J:=fun k=>k<=a.length/\a.length=b.length/\a.take k=b.take k,μ:=fun k=>a.length - k })]
def Hc (l:List Int) (xs:List Int):List (Nat × LI):=[(1,{ σ:=Nat,F:=fun k=>([(0,one (.ptr 0 0)),(6,one (.fz .int (l))),(7,one (.int (l).length)),(8,one (.int k))],[.arr 116 .int 65 ((cK xs (l.take k)))]),J:=fun k=>k<=l.length,μ:=fun k=>(l).length - k })]
theorem Ff (st:State) (c:Command) (r0:Int):dq aJ pU [] Try.f22 [.agg (cellsOf (.nm .state) st),.agg (cellsOf (.nm .command) c)] [] [.c (.int (r0))]=((fun (q0:Int)=>I64 q0->I64 st.next->I64 st.keep->I64 st.quota->st.sess.length*(32:Nat)<=(140737488355328:Nat)->st.opens.length*(16:Nat)<=(140737488355328:Nat)->st.snaps.length*(64:Nat)<=(140737488355328:Nat)->I64 c.kind->I64 c.client->I64 c.seq->I64 c.set->I64 c.id->I64 c.n->c.chunks.length*(8:Nat)<=(140737488355328:Nat)->c.text.b.length<=(140737488355328:Nat)->I64 (mayF st q0)->(¬mayF st q0=(0:Int)->(1:Int)=r0)/\(mayF st q0=(0:Int)->I64 (bM c q0)->bM c q0=r0)) st.version):=by kernel_rfl
theorem Fv (st:State) (c:Command):Sat Try.prog (au aJ) 22 [.agg (cellsOf (.nm .state) st),.agg (cellsOf (.nm .command) c)] [] ⟨[],[.c (.int ((if mayF st st.version=0 then bM c st.version else 1)))],none,false⟩:=by
 refine aU iQ [] Try.func22 (by decide) (by kernel_rfl) ?_
 rw [Ff]
 grind
theorem tw (a:List Snap) (b:List Snap) (r0:Bool):dq aJ pU (nL a b) Try.f16 [.c (.fz (.nm .snap) (a)),.c (.fz (.nm .snap) (b))] [] [.c (.bool (.atom (r0)))]=((fun (q3:Nat)=>(fun (q2:Nat)=>(fun (q1:Int)=>(fun (q0:den (Sh.nm NT.snap))=>a.length*(64:Nat)<=q3->b.length*(64:Nat)<=q3->(¬q1=(↑b.length:Int)->false=r0)/\(q1=(↑b.length:Int)->∃ (s0:Nat),(a=a/\b=b/\(0:Int)=(↑s0:Int))/\(s0<=q2/\q2=b.length/\List.take s0 a=List.take s0 b)/\∀ (s:Nat),(fun (q5:den (Sh.nm NT.snap))=>(fun (q4:den (Sh.nm NT.snap))=>s<=q2/\q2=b.length/\List.take s a=List.take s b->((↑s:Int)<q1->(0:Int)<=(↑s:Int)/\(↑s:Int)<q1/\(0:Int)<=(↑s:Int)/\(↑s:Int)<(↑b.length:Int)/\(I64 q4.id->I64 q4.set->q4.chunks.length*(8:Nat)<=q3->q4.tag.b.length<=q3->I64 q5.id->I64 q5.set->q5.chunks.length*(8:Nat)<=q3->q5.tag.b.length<=q3->(decide (q4=q5)=false->false=r0)/\(decide (q4=q5)=true->I64 ((↑s:Int)+(1:Int))/\∃ (s':Nat),(a=a/\b=b/\(↑s:Int)+(1:Int)=(↑s':Int))/\(s' <= q2/\q2=b.length/\List.take s' a=List.take s' b)/\q2 - s' < q2 - s)))/\(q1<=(↑s:Int)->true=r0)) (a.getD s q0)) (b.getD s q0))) (dflt (Sh.nm NT.snap))) (↑a.length:Int)) a.length) (140737488355328:Nat)):=by kernel_rfl
theorem rX (a:List Snap) (b:List Snap):Sat Try.prog (au aJ) 16 [.c (.fz (.nm .snap) (a)),.c (.fz (.nm .snap) (b))] [] ⟨[],[.c (.bool (.atom ((decide (a=b)))))],none,false⟩:=by
 refine aU iQ (nL a b) Try.func16 (by decide) (by kernel_rfl) ?_
 rw [tw]
 (repeat' (first | with_reducible refine And.intro ?_ ?_ | with_reducible refine and_imp.2 ?_ | intro))
 all_goals try (first | (first | with_reducible rfl | with_reducible assumption | omega | (refine al ?_ ?_ <;> omega)) | exact rfl | exact (tq (by with_reducible assumption)) | exact (xX (by with_reducible assumption) (by with_reducible assumption) (by with_reducible assumption) (by omega)) | exact (yt (by with_reducible assumption) (by omega) (by omega)) | exact (lP (by omega) (by with_reducible assumption) (by omega)))
 all_goals try (refine ⟨0,?_⟩; (repeat' (first | with_reducible refine And.intro ?_ ?_ | with_reducible refine and_imp.2 ?_ | intro)))
 all_goals try (first | (first | with_reducible rfl | with_reducible assumption | omega | (refine al ?_ ?_ <;> omega)) | exact rfl | exact (tq (by with_reducible assumption)) | exact (xX (by with_reducible assumption) (by with_reducible assumption) (by with_reducible assumption) (by omega)) | exact (yt (by with_reducible assumption) (by omega) (by omega)) | exact (lP (by omega) (by with_reducible assumption) (by omega)))
 all_goals try (refine ⟨‹Nat› + 1,?_⟩; (repeat' (first | with_reducible refine And.intro ?_ ?_ | with_reducible refine and_imp.2 ?_ | intro)))
 all_goals (first | (first | with_reducible rfl | with_reducible assumption | omega | (refine al ?_ ?_ <;> omega)) | exact rfl | exact (tq (by with_reducible assumption)) | exact (xX (by with_reducible assumption) (by with_reducible assumption) (by with_reducible assumption) (by omega)) | exact (yt (by with_reducible assumption) (by omega) (by omega)) | exact (lP (by omega) (by with_reducible assumption) (by omega)))
theorem GK (l:List Int) (xs:List Int) (r0:List Int):nB aJ pU (Hc l xs) Try.f94 [.c (.ptr 0 0),.c (.fz .int (l))] [.arr 116 .int 65 (xs)] [] [.arr 116 .int 65 (r0)]=((fun (q1:Int)=>(fun (q0:Nat)=>l.length*(8:Nat)<=(140737488355328:Nat)->∃ (s0:Nat),(fun (q2:Int)=>(l=l/\(↑l.length:Int)=q2/\(0:Int)=(↑s0:Int)/\xs=cK xs (List.take s0 l))/\s0<=q0/\∀ (s:Nat),(fun (q4:Int)=>(fun (q3:List Int)=>s<=q0->((↑s:Int)<q2->(0:Int)<=(↑s:Int)/\(↑s:Int)<(↑l.length:Int)/\∀ (x:Int),(fun (q5:den Sh.int)=>l[s]? = some x->I64 x->(q1<=x/\x<=(64:Int)->(0:Int)<=x/\x<(↑(65:Nat):Int)/\x.toNat<(65:Nat)/\I64 (q5+q1)/\(0:Int)<=x/\x<(↑(65:Nat):Int)/\(I64 q5->x.toNat<(65:Nat)/\I64 q4/\∃ (s':Nat),(l=l/\q2=q2/\q4=(↑s':Int)/\q3.set x.toNat (q5+q1)=cK xs (List.take s' l))/\s' <= q0/\q0 - s' < q0 - s))/\(x<q1\/(64:Int)<x->I64 q4/\∃ (s':Nat),(l=l/\q2=q2/\q4=(↑s':Int)/\q3=cK xs (List.take s' l))/\s' <= q0/\q0 - s' < q0 - s)) (q3.getD x.toNat (dflt Sh.int)))/\(q2<=(↑s:Int)->q3=r0)) (cK xs (List.take s l))) ((↑s:Int)+q1)) (↑q0:Int)) l.length) (1:Int)):=by kernel_rfl
theorem FZ (l:List Int) (xs:List Int) (h0:nH xs l):Sat Try.prog (au aJ) 94 [.c (.ptr 0 0),.c (.fz .int (l))] [.arr 116 .int 65 (xs)] ⟨[nH xs l],[],some ([.arr 116 .int 65 ((cK xs l))]),false⟩:=by
 refine dt iQ (Hc l xs) Try.func94 (by decide) (by kernel_rfl) ?_
 rw [GK]
 (repeat' (first | with_reducible refine And.intro ?_ ?_ | with_reducible refine and_imp.2 ?_ | intro))
 all_goals try (first | (first | with_reducible rfl | with_reducible assumption | omega | (refine al ?_ ?_ <;> omega)) | exact rfl | exact (Ai (by with_reducible assumption) (by constructor <;> omega)) | exact (Ah (by with_reducible assumption) (by omega)) | exact (by rw [List.take_of_length_le (by omega)]) | exact (zM (by with_reducible assumption)))
 all_goals try (refine ⟨0,?_⟩; (repeat' (first | with_reducible refine And.intro ?_ ?_ | with_reducible refine and_imp.2 ?_ | intro)))
 all_goals try (first | (first | with_reducible rfl | with_reducible assumption | omega | (refine al ?_ ?_ <;> omega)) | exact rfl | exact (Ai (by with_reducible assumption) (by constructor <;> omega)) | exact (Ah (by with_reducible assumption) (by omega)) | exact (by rw [List.take_of_length_le (by omega)]) | exact (zM (by with_reducible assumption)))
 all_goals try (refine ⟨‹Nat› + 1,?_⟩; (repeat' (first | with_reducible refine And.intro ?_ ?_ | with_reducible refine and_imp.2 ?_ | intro)))
 all_goals (first | (first | with_reducible rfl | with_reducible assumption | omega | (refine al ?_ ?_ <;> omega)) | exact rfl | exact (Ai (by with_reducible assumption) (by constructor <;> omega)) | exact (Ah (by with_reducible assumption) (by omega)) | exact (by rw [List.take_of_length_le (by omega)]) | exact (zM (by with_reducible assumption)))
def Dj:cJ:=(bW 94 (bQ (aj (kC (bL 0 0)) (aj (kC (cL .int)) aP)) (ay (oO 116 .int 65) aO) fun (_,l,_) (xs,_)=>⟨[nH xs l],[],some ([.arr 116 .int 65 ((cK xs l))]),false⟩) (bW 16 (bQ (aj (kC (cL (.nm .snap))) (aj (kC (cL (.nm .snap))) aP)) aO fun (a,b,_) (_)=>⟨[],[.c (.bool (.atom ((decide (a=b)))))],none,false⟩) (bW 22 (bQ (aj (kT (.nm .state)) (aj (kT (.nm .command)) aP)) aO fun (st,c,_) (_)=>⟨[],[.c (.int ((if mayF st st.version=0 then bM c st.version else 1)))],none,false⟩) pU)))
theorem zR:aR Try.prog (au aJ) Dj:=(aC (aB (ae (aw aI) (ae (aw bR) ao)) (ah ft aq) fun (_,l,_) (xs,_) hp=>FZ l xs (fh hp)) (aC (aB (ae (aw bR) (ae (aw bR) ao)) aq fun (a,b,_) (_) _=>rX a b ) (aC (aB (ae bN (ae bN ao)) aq fun (st,c,_) (_) _=>Fv st c ) iQ)))
end Go.Proofs.Ytdggohppeeaipaa
namespace Go.Proofs.Ytdggohppeeaipaa
open Go.RowKit
section
variable {B:Bool} {k:Nat}
variable {st:State} {v:Int}
end
def yj:cJ:=Dj
theorem rq:aR Try.prog (au aJ) yj:=zR
end Go.Proofs.Ytdggohppeeaipaa
namespace Go.Proofs.Ytdggohppeeaipaa
open Go.RowKit
theorem vI {a b:State} (h:((((¬ a.version=b.version\/¬ a.next=b.next)\/¬ a.keep=b.keep)\/¬ a.quota=b.quota)\/¬ ((a.sess.length:Nat):Int)=(b.sess.length:Nat))\/¬ ((a.opens.length:Nat):Int)=(b.opens.length:Nat)):false=decide (a=b):=by
 symm; apply decide_eq_false; rintro rfl; simp at h
theorem vx {a b:State} {s:Nat} (h:¬ (a.sess.getD s (dflt (.nm .sess))).client=(b.sess.getD s (dflt (.nm .sess))).client\/¬ (a.sess.getD s (dflt (.nm .sess))).seq=(b.sess.getD s (dflt (.nm .sess))).seq\/¬ (a.sess.getD s (dflt (.nm .sess))).last.code=(b.sess.getD s (dflt (.nm .sess))).last.code\/¬ (a.sess.getD s (dflt (.nm .sess))).last.n=(b.sess.getD s (dflt (.nm .sess))).last.n):false=decide (a=b):=by
 symm; apply decide_eq_false; rintro rfl; simp at h
theorem wk {a b:State} {s:Nat} (h:¬ (a.opens.getD s (dflt (.nm .opn))).set=(b.opens.getD s (dflt (.nm .opn))).set\/¬ (a.opens.getD s (dflt (.nm .opn))).client=(b.opens.getD s (dflt (.nm .opn))).client):false=decide (a=b):=by
 symm; apply decide_eq_false; rintro rfl; simp at h
theorem Bw {x y:Sess} (h1:x.client=y.client) (h2:x.seq=y.seq) (h3:x.last.code=y.last.code) (h4:x.last.n=y.last.n):x=y:=by
 obtain ⟨a,b,⟨c,d⟩⟩:=x; obtain ⟨a',b',⟨c',d'⟩⟩:=y; simp_all
theorem FH {x y:Opn} (h1:x.set=y.set) (h2:x.client=y.client):x=y:=by cases x; cases y; simp_all
theorem nP {a b:List Sess} {s:Nat} (h:a.take s=b.take s) (h1:(a.getD s (dflt (.nm .sess))).client=(b.getD s (dflt (.nm .sess))).client) (h2:(a.getD s (dflt (.nm .sess))).seq=(b.getD s (dflt (.nm .sess))).seq) (h3:(a.getD s (dflt (.nm .sess))).last.code=(b.getD s (dflt (.nm .sess))).last.code) (h4:(a.getD s (dflt (.nm .sess))).last.n=(b.getD s (dflt (.nm .sess))).last.n) (ha:s<a.length) (hb:s<b.length):a.take (s+1)=b.take (s+1):=tX h ha hb (Bw h1 h2 h3 h4)
theorem mY {a b:List Opn} {s:Nat} (h:a.take s=b.take s) (h1:(a.getD s (dflt (.nm .opn))).set=(b.getD s (dflt (.nm .opn))).set) (h2:(a.getD s (dflt (.nm .opn))).client=(b.getD s (dflt (.nm .opn))).client) (ha:s<a.length) (hb:s<b.length):a.take (s+1)=b.take (s+1):=tX h ha hb (FH h1 h2)
theorem vM {a b:State} {s q:Nat} (h1:a.version=b.version) (h2:a.next=b.next) (h3:a.keep=b.keep) (h4:a.quota=b.quota) (h5:a.sess.take s=b.sess.take s) (h6:a.opens.take q=b.opens.take q) (ha:a.sess.length<=s) (hb:b.sess.length<=s) (hc:a.opens.length<=q) (hd:b.opens.length<=q):decide (a.snaps=b.snaps)=decide (a=b):=by
 rw [List.take_of_length_le ha,List.take_of_length_le hb] at h5
 rw [List.take_of_length_le hc,List.take_of_length_le hd] at h6
 cases a; cases b; simp_all
def AI (a:State) (b:State):List (Nat × LI):=[(4,{ σ:=Nat,F:=fun k=>([(2,one (.ptr 0 0)),(3,one (.ptr 1 0)),(5,one (.int k))],[.box 29 (cellsOf (.nm .state) ((a))),.box 29 (cellsOf (.nm .state) ((b)))]),J:=fun k=>k<=a.sess.length/\a.sess.take k=b.sess.take k,μ:=fun k=>a.sess.length - k }),(9,{ σ:=Nat,F:=fun k=>([(2,one (.ptr 0 0)),(3,one (.ptr 1 0)),(6,one (.int k))],[.box 29 (cellsOf (.nm .state) ((a))),.box 29 (cellsOf (.nm .state) ((b)))]),J:=fun k=>k<=a.opens.length/\a.opens.take k=b.opens.take k,μ:=fun k=>a.opens.length - k })]
theorem CS (a:State) (b:State) (r0:Bool):dq aJ yj (AI a b) Try.f10 [.agg (cellsOf (.nm .state) a),.agg (cellsOf (.nm .state) b)] [] [.c (.bool (.atom (r0)))]=((fun (q8:Nat)=>(fun (q7:Int)=>(fun (q6:List Opn)=>(fun (q5:List Sess)=>(fun (q4:den (Sh.nm NT.opn))=>(fun (q3:List Opn)=>(fun (q2:List Sess)=>(fun (q1:den (Sh.nm NT.sess))=>(fun (q0:Prop)=>I64 a.version->I64 a.next->I64 a.keep->I64 a.quota->q2.length*(32:Nat)<=q8->q3.length*(16:Nat)<=q8->a.snaps.length*(64:Nat)<=q8->I64 b.version->I64 b.next->I64 b.keep->I64 b.quota->q5.length*(32:Nat)<=q8->q6.length*(16:Nat)<=q8->b.snaps.length*(64:Nat)<=q8->(((((¬a.version=b.version\/¬a.next=b.next)\/¬a.keep=b.keep)\/¬a.quota=b.quota)\/¬(↑q2.length:Int)=(↑q5.length:Int))\/¬(↑q3.length:Int)=(↑q6.length:Int)->false=r0)/\(((((a.version=b.version/\a.next=b.next)/\a.keep=b.keep)/\a.quota=b.quota)/\(↑q2.length:Int)=(↑q5.length:Int))/\(↑q3.length:Int)=(↑q6.length:Int)->∃ (s0:Nat),(q7=(↑s0:Int)/\q0)/\(s0<=q2.length/\List.take s0 q2=List.take s0 q5)/\∀ (s:Nat),(fun (q10:den (Sh.nm NT.sess))=>(fun (q9:den (Sh.nm NT.sess))=>s<=q2.length/\List.take s q2=List.take s q5->((↑s:Int)<(↑q2.length:Int)->q7<=(↑s:Int)/\(↑s:Int)<(↑q2.length:Int)/\q7<=(↑s:Int)/\(↑s:Int)<(↑q5.length:Int)/\(I64 q10.client->I64 q10.seq->I64 q10.last.code->I64 q10.last.n->I64 q9.client->I64 q9.seq->I64 q9.last.code->I64 q9.last.n->(¬q10.client=q9.client\/¬q10.seq=q9.seq\/¬q10.last.code=q9.last.code\/¬q10.last.n=q9.last.n->false=r0)/\(q10.client=q9.client/\q10.seq=q9.seq/\q10.last.code=q9.last.code/\q10.last.n=q9.last.n->I64 ((↑s:Int)+(1:Int))/\∃ (s':Nat),((↑s:Int)+(1:Int)=(↑s':Int)/\q0)/\(s' <= q2.length/\List.take s' q2=List.take s' q5)/\q2.length - s' < q2.length - s)))/\((↑q2.length:Int)<=(↑s:Int)->∃ (s0:Nat),(q7=(↑s0:Int)/\q0)/\(s0<=q3.length/\List.take s0 q3=List.take s0 q6)/\∀ (s:Nat),(fun (q12:den (Sh.nm NT.opn))=>(fun (q11:den (Sh.nm NT.opn))=>s<=q3.length/\List.take s q3=List.take s q6->((↑s:Int)<(↑q3.length:Int)->q7<=(↑s:Int)/\(↑s:Int)<(↑q3.length:Int)/\q7<=(↑s:Int)/\(↑s:Int)<(↑q6.length:Int)/\(I64 q12.set->I64 q12.client->I64 q11.set->I64 q11.client->(¬q12.set=q11.set\/¬q12.client=q11.client->false=r0)/\(q12.set=q11.set/\q12.client=q11.client->I64 ((↑s:Int)+(1:Int))/\∃ (s':Nat),((↑s:Int)+(1:Int)=(↑s':Int)/\q0)/\(s' <= q3.length/\List.take s' q3=List.take s' q6)/\q3.length - s' < q3.length - s)))/\((↑q3.length:Int)<=(↑s:Int)->decide (a.snaps=b.snaps)=r0)) (q6.getD s q4)) (q3.getD s q4))) (q5.getD s q1)) (q2.getD s q1))) (a.version=a.version/\a.next=a.next/\a.keep=a.keep/\a.quota=a.quota/\q2=q2/\q3=q3/\a.snaps=a.snaps/\b.version=b.version/\b.next=b.next/\b.keep=b.keep/\b.quota=b.quota/\q5=q5/\q6=q6/\b.snaps=b.snaps)) (dflt (Sh.nm NT.sess))) a.sess) a.opens) (dflt (Sh.nm NT.opn))) b.sess) b.opens) (0:Int)) (140737488355328:Nat)):=by kernel_rfl
theorem BU (a:State) (b:State):Sat Try.prog (au aJ) 10 [.agg (cellsOf (.nm .state) a),.agg (cellsOf (.nm .state) b)] [] ⟨[],[.c (.bool (.atom ((decide (a=b)))))],none,false⟩:=by
 refine aU rq (AI a b) Try.func10 (by decide) (by kernel_rfl) ?_
 rw [CS]
 (repeat' (first | with_reducible refine And.intro ?_ ?_ | with_reducible refine and_imp.2 ?_ | intro))
 all_goals try (first | (first | with_reducible rfl | with_reducible assumption | omega | (refine al ?_ ?_ <;> omega)) | exact rfl | exact (vI (by assumption)) | exact (vx (by assumption)) | exact (wk (by assumption)) | exact (nP (by with_reducible assumption) (by with_reducible assumption) (by with_reducible assumption) (by with_reducible assumption) (by with_reducible assumption) (by omega) (by omega)) | exact (mY (by with_reducible assumption) (by with_reducible assumption) (by with_reducible assumption) (by omega) (by omega)) | exact (vM (by with_reducible assumption) (by with_reducible assumption) (by with_reducible assumption) (by with_reducible assumption) (by with_reducible assumption) (by with_reducible assumption) (by omega) (by omega) (by omega) (by omega)))
 all_goals try (refine ⟨0,?_⟩; (repeat' (first | with_reducible refine And.intro ?_ ?_ | with_reducible refine and_imp.2 ?_ | intro)))
 all_goals try (first | (first | with_reducible rfl | with_reducible assumption | omega | (refine al ?_ ?_ <;> omega)) | exact rfl | exact (vI (by assumption)) | exact (vx (by assumption)) | exact (wk (by assumption)) | exact (nP (by with_reducible assumption) (by with_reducible assumption) (by with_reducible assumption) (by with_reducible assumption) (by with_reducible assumption) (by omega) (by omega)) | exact (mY (by with_reducible assumption) (by with_reducible assumption) (by with_reducible assumption) (by omega) (by omega)) | exact (vM (by with_reducible assumption) (by with_reducible assumption) (by with_reducible assumption) (by with_reducible assumption) (by with_reducible assumption) (by with_reducible assumption) (by omega) (by omega) (by omega) (by omega)))
 all_goals try (have hg:(‹Nat›:Int)<(a.sess.length:Int):=(by omega); clear hg; refine ⟨‹Nat› + 1,?_⟩; (repeat' (first | with_reducible refine And.intro ?_ ?_ | with_reducible refine and_imp.2 ?_ | intro)))
 all_goals try (first | (first | with_reducible rfl | with_reducible assumption | omega | (refine al ?_ ?_ <;> omega)) | exact rfl | exact (vI (by assumption)) | exact (vx (by assumption)) | exact (wk (by assumption)) | exact (nP (by with_reducible assumption) (by with_reducible assumption) (by with_reducible assumption) (by with_reducible assumption) (by with_reducible assumption) (by omega) (by omega)) | exact (mY (by with_reducible assumption) (by with_reducible assumption) (by with_reducible assumption) (by omega) (by omega)) | exact (vM (by with_reducible assumption) (by with_reducible assumption) (by with_reducible assumption) (by with_reducible assumption) (by with_reducible assumption) (by with_reducible assumption) (by omega) (by omega) (by omega) (by omega)))
 all_goals try (have hg:((a.sess.length:Nat):Int)<=(‹Nat›:Int):=(by omega); clear hg; refine ⟨0,?_⟩; (repeat' (first | with_reducible refine And.intro ?_ ?_ | with_reducible refine and_imp.2 ?_ | intro)))
 all_goals try (first | (first | with_reducible rfl | with_reducible assumption | omega | (refine al ?_ ?_ <;> omega)) | exact rfl | exact (vI (by assumption)) | exact (vx (by assumption)) | exact (wk (by assumption)) | exact (nP (by with_reducible assumption) (by with_reducible assumption) (by with_reducible assumption) (by with_reducible assumption) (by with_reducible assumption) (by omega) (by omega)) | exact (mY (by with_reducible assumption) (by with_reducible assumption) (by with_reducible assumption) (by omega) (by omega)) | exact (vM (by with_reducible assumption) (by with_reducible assumption) (by with_reducible assumption) (by with_reducible assumption) (by with_reducible assumption) (by with_reducible assumption) (by omega) (by omega) (by omega) (by omega)))
 all_goals try (refine ⟨‹Nat› + 1,?_⟩; (repeat' (first | with_reducible refine And.intro ?_ ?_ | with_reducible refine and_imp.2 ?_ | intro)))
 all_goals try (first | (first | with_reducible rfl | with_reducible assumption | omega | (refine al ?_ ?_ <;> omega)) | exact rfl | exact (vI (by assumption)) | exact (vx (by assumption)) | exact (wk (by assumption)) | exact (nP (by with_reducible assumption) (by with_reducible assumption) (by with_reducible assumption) (by with_reducible assumption) (by with_reducible assumption) (by omega) (by omega)) | exact (mY (by with_reducible assumption) (by with_reducible assumption) (by with_reducible assumption) (by omega) (by omega)) | exact (vM (by with_reducible assumption) (by with_reducible assumption) (by with_reducible assumption) (by with_reducible assumption) (by with_reducible assumption) (by with_reducible assumption) (by omega) (by omega) (by omega) (by omega)))
 all_goals (first | (first | with_reducible rfl | with_reducible assumption | omega | (refine al ?_ ?_ <;> omega)) | exact rfl | exact (vI (by assumption)) | exact (vx (by assumption)) | exact (wk (by assumption)) | exact (nP (by with_reducible assumption) (by with_reducible assumption) (by with_reducible assumption) (by with_reducible assumption) (by with_reducible assumption) (by omega) (by omega)) | exact (mY (by with_reducible assumption) (by with_reducible assumption) (by with_reducible assumption) (by omega) (by omega)) | exact (vM (by with_reducible assumption) (by with_reducible assumption) (by with_reducible assumption) (by with_reducible assumption) (by with_reducible assumption) (by with_reducible assumption) (by omega) (by omega) (by omega) (by omega)))
def nG:cJ:=(bW 10 (bQ (aj (kT (.nm .state)) (aj (kT (.nm .state)) aP)) aO fun (a,b,_) (_)=>⟨[],[.c (.bool (.atom ((decide (a=b)))))],none,false⟩) yj)
theorem fS:aR Try.prog (au aJ) nG:=(aC (aB (ae bN (ae bN ao)) aq fun (a,b,_) (_) _=>BU a b ) rq)
end Go.Proofs.Ytdggohppeeaipaa
namespace Go.Proofs.Ytdggohppeeaipaa
open Go.RowKit
def dm (xs:List Int) (c:Int):Bool:=decide (0<xs.getD c.toNat (dflt .int))
def dh (xs ys:List Int) (c:Int):Bool:=decide (0<xs.getD c.toNat (dflt .int)) && decide (ys.getD c.toNat (dflt .int)=0)
def fM (p:Int->Bool) (k:Nat):List Int:=((List.range k).map fun (i:Nat)=>(i:Int)+1).filter p
theorem wb {p:Int->Bool} {k:Nat} (h:p ((k:Int)+1)=true):fM p k++[(k:Int)+1]=fM p (k+1):=by
 unfold fM; rw [List.range_succ,List.map_append,List.filter_append]; simp [h]
theorem wA {p:Int->Bool} {k:Nat} (h:p ((k:Int)+1)=false):fM p k=fM p (k+1):=by
 unfold fM; rw [List.range_succ,List.map_append,List.filter_append]; simp [h]
theorem vE {p:Int->Bool} {k:Nat} (h:k<=64) (h2:64<(k:Int)+1):fM p k=fM p 64:=by rw [show k=64 by omega]
theorem jC {p:Int->Bool} {k:Nat} {n:Int} (h:k<=64):((fM p k).length+[n].length)*8<=140737488355328:=by
 have:=List.length_filter_le p ((List.range k).map fun (i:Nat)=>(i:Int)+1)
 rw [List.length_map,List.length_range] at this
 unfold fM; simp only [List.length_cons,List.length_nil]; omega
def bA (l:List Snap):List Int:=l.foldl (fun t x=>cK t x.chunks) (List.replicate 65 0)
theorem my:∀ (l xs:List Int),(cK xs l).length=xs.length
 | [],_=>rfl
 | n :: l,xs=>by
  show (cK (if 1<=n/\n<=64 then xs.set n.toNat (xs.getD n.toNat 0+1) else xs) l).length=_
  rw [my l]; split
  ·rw [List.length_set]
  ·rfl
theorem fV {l:List Snap} {x:Snap}:bA (l++[x])=cK (bA l) x.chunks:=by unfold bA; rw [List.foldl_append]; rfl
theorem sH {l:List Snap} {k:Nat} {x:Snap} (hx:l[k]? = some x):cK (bA (l.take k)) x.chunks=bA (l.take (k+1)):=by rw [aF hx,fV]
theorem pB {p:List Snap->Prop} (h0:p []) (hs:∀ l x,p l->p (l++[x])) (l:List Snap):p l:=by
 have:∀ r:List Snap,p r.reverse:=fun r=>by
  induction r with
  | nil=>exact h0
  | cons x r ih=>rw [List.reverse_cons]; exact hs _ _ ih
 have h:=this l.reverse
 rwa [List.reverse_reverse] at h
theorem dS (l:List Snap):(bA l).length=65:=by
 refine pB (p:=fun l=>(bA l).length=65) rfl (fun l x h=>?_) l
 rw [fV,my,h]
theorem qH {l:List Snap} {x:Snap}:nch (l++[x])=nch l+x.chunks.length:=by unfold nch; simp
theorem AW (l:List Snap) (i:Nat):0<=(bA l).getD i 0/\(bA l).getD i 0<=nch l:=by
 refine pB (p:=fun l=>0<=(bA l).getD i 0/\(bA l).getD i 0<=nch l) ?_ (fun l x h=>?_) l
 ·show 0<=(List.replicate 65 (0:Int)).getD i 0/\(List.replicate 65 (0:Int)).getD i 0<=_
  rw [List.getD_eq_getElem?_getD,List.getElem?_replicate]; split <;> simp
 ·have:=sG x.chunks (bA l) i
  rw [fV,qH]; omega
theorem gv {l:List Snap} {k:Nat} {x:Snap} (hx:l[k]? = some x) (h:nch l<=1048576):nH (bA (l.take k)) x.chunks:=fun i=>by
 have h1:=AW (l.take k) i
 have h2:nch (l.take (k+1))<=nch l:=by
  unfold nch; rw [<- List.take_append_drop (k+1) l,List.flatMap_append,List.length_append,List.take_append_drop]; omega
 rw [aF hx,qH] at h2
 omega
theorem ui {l:List Snap} {m:List Int} {s:Sh} (h:nch l<=1048576) (hm:m.length*8<=140737488355328):nH (mj .int (bA l) 0 65) m:=fun i=>by
 rw [eu (dS l)]
 have h1:=AW l i
 omega
theorem tO:∀ (l xs:List Int) (c:Int),1<=c->c<=64->xs.length=65->(cK xs l).getD c.toNat 0=xs.getD c.toNat 0+(l.count c:Nat)
 | [],_,_,_,_,_=>by simp [cK]
 | n :: l,xs,c,h1,h2,h3=>by
  show (cK (if 1<=n/\n<=64 then xs.set n.toNat (xs.getD n.toNat 0+1) else xs) l).getD c.toNat 0=_
  rw [tO l _ c h1 h2 (by split; rw [List.length_set,h3]; exact h3),List.count_cons]
  split
  ·rw [qI]
   by_cases e:n=c
   ·subst e; rw [if_pos ⟨rfl,by omega⟩]; simp; omega
   ·rw [if_neg (by omega)]; simp [e]
  ·by_cases e:n=c
   ·omega
   ·simp [e]
theorem sj (l:List Snap) (c:Int) (h1:1<=c) (h2:c<=64):(bA l).getD c.toNat 0=(pt c l:Nat):=by
 refine pB (p:=fun l=>(bA l).getD c.toNat 0=(pt c l:Nat)) ?_ (fun l x h=>?_) l
 ·show (List.replicate 65 (0:Int)).getD c.toNat 0=_
  rw [List.getD_eq_getElem?_getD,List.getElem?_replicate]; split <;> simp [pt]
 ·rw [fV,tO _ _ _ h1 h2 (dS l),h]
  unfold pt; simp
theorem tG (l:List Snap):((fM (dm (bA l)) 64).length:Int)=(distF l:Int):=by
 unfold fM distF n_
 rw [List.filter_map,List.length_map]
 congr 2
 apply List.filter_congr
 intro i hi
 rw [List.mem_range] at hi
 have:=sj l ((i:Int)+1) (by omega) (by omega)
 simp only [Function.comp,dm]
 rw [show (dflt .int)=(0:Int) from rfl,this]
 rw [decide_eq_decide]; omega
theorem xm (l m:List Snap) (id:Int) (e:m=aZ id l):fM (dh (bA l) (bA m)) 64=fo l id:=by
 subst e
 unfold fM fo iE
 rw [List.filter_map]
 congr 1
 apply List.filter_congr
 intro i hi
 rw [List.mem_range] at hi
 have h1:=sj l ((i:Int)+1) (by omega) (by omega)
 have h2:=sj (aZ id l) ((i:Int)+1) (by omega) (by omega)
 simp only [Function.comp,dh]
 rw [show (dflt .int)=(0:Int) from rfl,h1,h2]
 congr 1 <;> (rw [decide_eq_decide]; omega)
def xQ (l:List Snap):List (Nat × LI):=[(3,{ σ:=Nat,F:=fun k=>([(2,one (.ptr 0 0)),(3,one (.ptr 1 0)),(6,one (.fz (.nm .snap) (l))),(7,one (.int (l).length)),(8,one (.int k))],[.arr 116 .int 65 ((List.replicate 65 0)),.arr 116 .int 65 ((bA (l.take k)))]),J:=fun k=>k<=l.length,μ:=fun k=>l.length - k })]
def rP (l:List Snap) (id:Int):List (Nat × LI):=[(3,{ σ:=Nat,F:=fun k=>([(1,one (.int (id))),(5,one (.own 0)),(8,one (.fz (.nm .snap) (l))),(9,one (.int (l).length)),(10,one (.int k))],[.row 59 (.nm .snap) ((aZ id (l.take k)))]),J:=fun k=>k<=l.length,μ:=fun k=>l.length - k })]
theorem Bc (n:Int) (xs:List Int) (r0:Bool):dq aJ nG [] Try.f96 [.c (.int (n)),.c (.ptr 0 0)] [.arr 116 .int 65 (xs)] [.c (.bool (.atom (r0)))]=(I64 n->(0:Int)<=n/\n<(↑(65:Nat):Int)/\n.toNat<(65:Nat)/\(I64 (xs.getD n.toNat (dflt Sh.int))->decide ((0:Int)<xs.getD n.toNat (dflt Sh.int))=r0)):=by kernel_rfl
theorem Ci (n:Int) (xs:List Int) (h0:0<=n/\n<65):Sat Try.prog (au aJ) 96 [.c (.int (n)),.c (.ptr 0 0)] [.arr 116 .int 65 (xs)] ⟨[0<=n/\n<65],[.c (.bool (.atom ((dm xs n))))],none,false⟩:=by
 refine aU fS [] Try.func96 (by decide) (by kernel_rfl) ?_
 rw [Bc]
 (repeat' (first | with_reducible refine And.intro ?_ ?_ | with_reducible refine and_imp.2 ?_ | intro)) <;> first | (first | with_reducible rfl | with_reducible assumption | omega | (refine al ?_ ?_ <;> omega)) | rfl
theorem xU (n:Int) (xs:List Int) (ys:List Int) (r0:Bool):dq aJ nG [] Try.f97 [.c (.int (n)),.c (.ptr 0 0),.c (.ptr 1 0)] [.arr 116 .int 65 (xs),.arr 116 .int 65 (ys)] [.c (.bool (.atom (r0)))]=((fun (q1:Int)=>(fun (q0:den Sh.int)=>I64 n->q1<=n/\n<(↑(65:Nat):Int)/\n.toNat<(65:Nat)/\(I64 q0->(q1<q0->q1<=n/\n<(↑(65:Nat):Int)/\n.toNat<(65:Nat))/\((q1<q0->I64 (ys.getD n.toNat (dflt Sh.int)))->(decide (q1<q0) && decide (ys.getD n.toNat (dflt Sh.int)=q1))=r0))) (xs.getD n.toNat (dflt Sh.int))) (0:Int)):=by kernel_rfl
theorem yX (n:Int) (xs:List Int) (ys:List Int) (h0:0<=n/\n<65):Sat Try.prog (au aJ) 97 [.c (.int (n)),.c (.ptr 0 0),.c (.ptr 1 0)] [.arr 116 .int 65 (xs),.arr 116 .int 65 (ys)] ⟨[0<=n/\n<65],[.c (.bool (.atom ((dh xs ys n))))],none,false⟩:=by
 refine aU fS [] Try.func97 (by decide) (by kernel_rfl) ?_
 rw [xU]
 (repeat' (first | with_reducible refine And.intro ?_ ?_ | with_reducible refine and_imp.2 ?_ | intro)) <;> first | (first | with_reducible rfl | with_reducible assumption | omega | (refine al ?_ ?_ <;> omega)) | rfl
theorem CP (l:List Snap) (r0:List Int):dq aJ nG (xQ l) Try.f85 [.c (.fz (.nm .snap) (l))] [] [.agg (jf .int (r0) 0 65)]=((fun (q5:Nat)=>(fun (q4:Nat)=>(fun (q3:Nat)=>(fun (q2:Int)=>(fun (q1:den Sh.int)=>(fun (q0:List (den Sh.int))=>l.length*(64:Nat)<=(140737488355328:Nat)->∃ (s0:Nat),(l=l/\(↑l.length:Int)=(↑q5:Int)/\q2=(↑s0:Int)/\q0=List.replicate q3 (0:den Sh.int)/\q0=bA (List.take s0 l))/\s0<=q5/\∀ (s:Nat),(fun (q7:List Int)=>(fun (q6:List (den Sh.int))=>s<=q5->((↑s:Int)<(↑q5:Int)->q2<=(↑s:Int)/\(↑s:Int)<(↑l.length:Int)/\∀ (x:Snap),l[s]? = some x->I64 x.id->I64 x.set->x.chunks.length*(8:Nat)<=(140737488355328:Nat)->x.tag.b.length<=(140737488355328:Nat)->(∀ (i:Nat),q2<=q7.getD i q2/\q7.getD i q2+(↑x.chunks.length:Int)<=(4611686018427387904:Int))/\I64 ((↑s:Int)+(1:Int))/\∃ (s':Nat),(l=l/\(↑q5:Int)=(↑q5:Int)/\(↑s:Int)+(1:Int)=(↑s':Int)/\List.replicate q3 (0:den Sh.int)=List.replicate q3 (0:den Sh.int)/\cK q7 x.chunks=bA (List.take s' l))/\s' <= q5/\q5 - s' < q5 - s)/\((↑q5:Int)<=(↑s:Int)->q6.getD q4 q1=r0.getD q4 q1/\q6.getD (1:Nat) q1=r0.getD (1:Nat) q1/\q6.getD (2:Nat) q1=r0.getD (2:Nat) q1/\q6.getD (3:Nat) q1=r0.getD (3:Nat) q1/\q6.getD (4:Nat) q1=r0.getD (4:Nat) q1/\q6.getD (5:Nat) q1=r0.getD (5:Nat) q1/\q6.getD (6:Nat) q1=r0.getD (6:Nat) q1/\q6.getD (7:Nat) q1=r0.getD (7:Nat) q1/\q6.getD (8:Nat) q1=r0.getD (8:Nat) q1/\q6.getD (9:Nat) q1=r0.getD (9:Nat) q1/\q6.getD (10:Nat) q1=r0.getD (10:Nat) q1/\q6.getD (11:Nat) q1=r0.getD (11:Nat) q1/\q6.getD (12:Nat) q1=r0.getD (12:Nat) q1/\q6.getD (13:Nat) q1=r0.getD (13:Nat) q1/\q6.getD (14:Nat) q1=r0.getD (14:Nat) q1/\q6.getD (15:Nat) q1=r0.getD (15:Nat) q1/\q6.getD (16:Nat) q1=r0.getD (16:Nat) q1/\q6.getD (17:Nat) q1=r0.getD (17:Nat) q1/\q6.getD (18:Nat) q1=r0.getD (18:Nat) q1/\q6.getD (19:Nat) q1=r0.getD (19:Nat) q1/\q6.getD (20:Nat) q1=r0.getD (20:Nat) q1/\q6.getD (21:Nat) q1=r0.getD (21:Nat) q1/\q6.getD (22:Nat) q1=r0.getD (22:Nat) q1/\q6.getD (23:Nat) q1=r0.getD (23:Nat) q1/\q6.getD (24:Nat) q1=r0.getD (24:Nat) q1/\q6.getD (25:Nat) q1=r0.getD (25:Nat) q1/\q6.getD (26:Nat) q1=r0.getD (26:Nat) q1/\q6.getD (27:Nat) q1=r0.getD (27:Nat) q1/\q6.getD (28:Nat) q1=r0.getD (28:Nat) q1/\q6.getD (29:Nat) q1=r0.getD (29:Nat) q1/\q6.getD (30:Nat) q1=r0.getD (30:Nat) q1/\q6.getD (31:Nat) q1=r0.getD (31:Nat) q1/\q6.getD (32:Nat) q1=r0.getD (32:Nat) q1/\q6.getD (33:Nat) q1=r0.getD (33:Nat) q1/\q6.getD (34:Nat) q1=r0.getD (34:Nat) q1/\q6.getD (35:Nat) q1=r0.getD (35:Nat) q1/\q6.getD (36:Nat) q1=r0.getD (36:Nat) q1/\q6.getD (37:Nat) q1=r0.getD (37:Nat) q1/\q6.getD (38:Nat) q1=r0.getD (38:Nat) q1/\q6.getD (39:Nat) q1=r0.getD (39:Nat) q1/\q6.getD (40:Nat) q1=r0.getD (40:Nat) q1/\q6.getD (41:Nat) q1=r0.getD (41:Nat) q1/\q6.getD (42:Nat) q1=r0.getD (42:Nat) q1/\q6.getD (43:Nat) q1=r0.getD (43:Nat) q1/\q6.getD (44:Nat) q1=r0.getD (44:Nat) q1/\q6.getD (45:Nat) q1=r0.getD (45:Nat) q1/\q6.getD (46:Nat) q1=r0.getD (46:Nat) q1/\q6.getD (47:Nat) q1=r0.getD (47:Nat) q1/\q6.getD (48:Nat) q1=r0.getD (48:Nat) q1/\q6.getD (49:Nat) q1=r0.getD (49:Nat) q1/\q6.getD (50:Nat) q1=r0.getD (50:Nat) q1/\q6.getD (51:Nat) q1=r0.getD (51:Nat) q1/\q6.getD (52:Nat) q1=r0.getD (52:Nat) q1/\q6.getD (53:Nat) q1=r0.getD (53:Nat) q1/\q6.getD (54:Nat) q1=r0.getD (54:Nat) q1/\q6.getD (55:Nat) q1=r0.getD (55:Nat) q1/\q6.getD (56:Nat) q1=r0.getD (56:Nat) q1/\q6.getD (57:Nat) q1=r0.getD (57:Nat) q1/\q6.getD (58:Nat) q1=r0.getD (58:Nat) q1/\q6.getD (59:Nat) q1=r0.getD (59:Nat) q1/\q6.getD (60:Nat) q1=r0.getD (60:Nat) q1/\q6.getD (61:Nat) q1=r0.getD (61:Nat) q1/\q6.getD (62:Nat) q1=r0.getD (62:Nat) q1/\q6.getD (63:Nat) q1=r0.getD (63:Nat) q1/\q6.getD (64:Nat) q1=r0.getD (64:Nat) q1)) (mj Sh.int q7 q4 q3)) (bA (List.take s l))) [q2,q2,q2,q2,q2,q2,q2,q2,q2,q2,q2,q2,q2,q2,q2,q2,q2,q2,q2,q2,q2,q2,q2,q2,q2,q2,q2,q2,q2,q2,q2,q2,q2,q2,q2,q2,q2,q2,q2,q2,q2,q2,q2,q2,q2,q2,q2,q2,q2,q2,q2,q2,q2,q2,q2,q2,q2,q2,q2,q2,q2,q2,q2,q2,q2]) (dflt Sh.int)) (0:Int)) (65:Nat)) (0:Nat)) l.length):=by kernel_rfl
theorem CG (l:List Snap) (h0:nch l<=1048576):Sat Try.prog (au aJ) 85 [.c (.fz (.nm .snap) (l))] [] ⟨[nch l<=1048576],[.agg (jf .int ((bA l)) 0 65)],none,false⟩:=by
 refine aU fS (xQ l) Try.func85 (by decide) (by kernel_rfl) ?_
 rw [CP]
 (repeat' (first | with_reducible refine And.intro ?_ ?_ | with_reducible refine and_imp.2 ?_ | intro))
 all_goals try (first | (first | with_reducible rfl | with_reducible assumption | omega | (refine al ?_ ?_ <;> omega)) | exact rfl | exact (sH (by with_reducible assumption)) | exact (gv (by with_reducible assumption) (by with_reducible assumption) _).1 | exact (gv (by with_reducible assumption) (by with_reducible assumption) _).2 | exact (by rw [eu (dS _),List.take_of_length_le (by omega)]))
 all_goals try (refine ⟨0,?_⟩; (repeat' (first | with_reducible refine And.intro ?_ ?_ | with_reducible refine and_imp.2 ?_ | intro)))
 all_goals try (first | (first | with_reducible rfl | with_reducible assumption | omega | (refine al ?_ ?_ <;> omega)) | exact rfl | exact (sH (by with_reducible assumption)) | exact (gv (by with_reducible assumption) (by with_reducible assumption) _).1 | exact (gv (by with_reducible assumption) (by with_reducible assumption) _).2 | exact (by rw [eu (dS _),List.take_of_length_le (by omega)]))
 all_goals try (refine ⟨‹Nat› + 1,?_⟩; (repeat' (first | with_reducible refine And.intro ?_ ?_ | with_reducible refine and_imp.2 ?_ | intro)))
 all_goals (first | (first | with_reducible rfl | with_reducible assumption | omega | (refine al ?_ ?_ <;> omega)) | exact rfl | exact (sH (by with_reducible assumption)) | exact (gv (by with_reducible assumption) (by with_reducible assumption) _).1 | exact (gv (by with_reducible assumption) (by with_reducible assumption) _).2 | exact (by rw [eu (dS _),List.take_of_length_le (by omega)]))
theorem vJ (l:List Snap) (id:Int) (r0:List Snap):th aJ nG (rP l id) Try.f88 [.c (.fz (.nm .snap) (l)),.c (.int (id))] [] [.c (.own 0)] [.row 59 (.nm .snap) (r0)]=((fun (q0:Nat)=>l.length*(64:Nat)<=(140737488355328:Nat)->I64 id->∃ (s0:Nat),(fun (q1:Int)=>(id=id/\l=l/\(↑l.length:Int)=q1/\(0:Int)=(↑s0:Int)/\aZ id (List.take s0 l)=[])/\s0<=q0/\∀ (s:Nat),(fun (q3:List Snap)=>(fun (q2:Int)=>s<=q0->((↑s:Int)<q1->(0:Int)<=(↑s:Int)/\(↑s:Int)<(↑l.length:Int)/\∀ (x:Snap),(fun (q4:Prop)=>l[s]? = some x->I64 x.id->I64 x.set->q4->x.tag.b.length<=(140737488355328:Nat)->(¬x.id=id->q4->(q3.length+[x].length)*(64:Nat)<=(140737488355328:Nat)/\I64 q2/\∃ (s':Nat),(id=id/\l=l/\q1=q1/\q2=(↑s':Int)/\q3++[x]=aZ id (List.take s' l))/\s' <= q0/\q0 - s' < q0 - s)/\(x.id=id->I64 q2/\∃ (s':Nat),(id=id/\l=l/\q1=q1/\q2=(↑s':Int)/\q3=aZ id (List.take s' l))/\s' <= q0/\q0 - s' < q0 - s)) (x.chunks.length*(8:Nat)<=(140737488355328:Nat)))/\(q1<=(↑s:Int)->q3=r0)) ((↑s:Int)+(1:Int))) (aZ id (List.take s l))) (↑q0:Int)) l.length):=by kernel_rfl
theorem wy (l:List Snap) (id:Int):Sat Try.prog (au aJ) 88 [.c (.fz (.nm .snap) (l)),.c (.int (id))] [] ⟨[],[.c (.own 0)],some ([.row 59 (.nm .snap) ((aZ id l))]),true⟩:=by
 refine eH fS (rP l id) Try.func88 (by decide) (by kernel_rfl) ?_
 rw [vJ]
 (repeat' (first | with_reducible refine And.intro ?_ ?_ | with_reducible refine and_imp.2 ?_ | intro))
 all_goals try (first | (first | with_reducible rfl | with_reducible assumption | omega | (refine al ?_ ?_ <;> omega)) | exact rfl | exact (AY (by with_reducible assumption) (by with_reducible assumption) (by with_reducible assumption)) | exact (zy (by with_reducible assumption) (by with_reducible assumption)) | exact (sk (by omega)) | exact (sw (by omega) (by omega)))
 all_goals try (refine ⟨0,?_⟩; (repeat' (first | with_reducible refine And.intro ?_ ?_ | with_reducible refine and_imp.2 ?_ | intro)))
 all_goals try (first | (first | with_reducible rfl | with_reducible assumption | omega | (refine al ?_ ?_ <;> omega)) | exact rfl | exact (AY (by with_reducible assumption) (by with_reducible assumption) (by with_reducible assumption)) | exact (zy (by with_reducible assumption) (by with_reducible assumption)) | exact (sk (by omega)) | exact (sw (by omega) (by omega)))
 all_goals try (refine ⟨‹Nat› + 1,?_⟩; (repeat' (first | with_reducible refine And.intro ?_ ?_ | with_reducible refine and_imp.2 ?_ | intro)))
 all_goals (first | (first | with_reducible rfl | with_reducible assumption | omega | (refine al ?_ ?_ <;> omega)) | exact rfl | exact (AY (by with_reducible assumption) (by with_reducible assumption) (by with_reducible assumption)) | exact (zy (by with_reducible assumption) (by with_reducible assumption)) | exact (sk (by omega)) | exact (sw (by omega) (by omega)))
def tY:cJ:=(bW 88 (bQ (aj (kC (cL (.nm .snap))) (aj (kC cI) aP)) aO fun (l,id,_) (_)=>⟨[],[.c (.own 0)],some ([.row 59 (.nm .snap) ((aZ id l))]),true⟩) (bW 85 (bQ (aj (kC (cL (.nm .snap))) aP) aO fun (l,_) (_)=>⟨[nch l<=1048576],[.agg (jf .int ((bA l)) 0 65)],none,false⟩) (bW 97 (bQ (aj (kC cI) (aj (kC (bL 0 0)) (aj (kC (bL 1 0)) aP))) (ay (oO 116 .int 65) (ay (oO 116 .int 65) aO)) fun (n,_,_,_) (xs,ys,_)=>⟨[0<=n/\n<65],[.c (.bool (.atom ((dh xs ys n))))],none,false⟩) (bW 96 (bQ (aj (kC cI) (aj (kC (bL 0 0)) aP)) (ay (oO 116 .int 65) aO) fun (n,_,_) (xs,_)=>⟨[0<=n/\n<65],[.c (.bool (.atom ((dm xs n))))],none,false⟩) nG))))
theorem lG:aR Try.prog (au aJ) tY:=(aC (aB (ae (aw bR) (ae (aw ax) ao)) aq fun (l,id,_) (_) _=>wy l id ) (aC (aB (ae (aw bR) ao) aq fun (l,_) (_) hp=>CG l (fh hp)) (aC (aB (ae (aw ax) (ae (aw aI) (ae (aw aI) ao))) (ah ft (ah ft aq)) fun (n,_,_,_) (xs,ys,_) hp=>yX n xs ys (fh hp)) (aC (aB (ae (aw ax) (ae (aw aI) ao)) (ah ft aq) fun (n,_,_) (xs,_) hp=>Ci n xs (fh hp)) fS))))
end Go.Proofs.Ytdggohppeeaipaa
namespace Go.Proofs.Ytdggohppeeaipaa
open Go.RowKit
def qN (xs:List Int):List (Nat × LI):=[(3,{ σ:=Nat,F:=fun k=>([(0,one (.fn 96 [] [(0,0)])),(3,one (.own 1)),(4,one (.int (k+1)))],[.arr 116 .int 65 ((xs)),.row 3 .int ((fM (dm xs) k))]),J:=fun k=>k<=64,μ:=fun k=>64 - k })]
def pP (xs:List Int) (ys:List Int):List (Nat × LI):=[(3,{ σ:=Nat,F:=fun k=>([(0,one (.fn 97 [] [(0,0),(1,0)])),(3,one (.own 2)),(4,one (.int (k+1)))],[.arr 116 .int 65 ((xs)),.arr 116 .int 65 ((ys)),.row 3 .int ((fM (dh xs ys) k))]),J:=fun k=>k<=64,μ:=fun k=>64 - k })]
theorem wv (xs:List Int) (r0:List Int):dq aJ tY (qN xs) Try.f95 [.c (.fn 96 [] [(0,0)])] [.arr 116 .int 65 (xs)] [.c (.fz .int (r0))]=((fun (q1:Nat)=>(fun (q0:Int)=>∃ (s0:Nat),(q0=(↑s0:Int)+q0/\xs=xs/\fM (dm xs) s0=[])/\s0<=q1/\∀ (s:Nat),(fun (q3:List Int)=>(fun (q2:Int)=>s<=q1->(q2<=(64:Int)->((0:Int)<=q2/\q2<(65:Int))/\(dm xs q2=true->(q3.length+[q2].length)*(8:Nat)<=(140737488355328:Nat)/\I64 (q2+q0)/\∃ (s':Nat),(q2+q0=(↑s':Int)+q0/\xs=xs/\q3++[q2]=fM (dm xs) s')/\s' <= q1/\q1 - s' < q1 - s)/\(dm xs q2=false->I64 (q2+q0)/\∃ (s':Nat),(q2+q0=(↑s':Int)+q0/\xs=xs/\q3=fM (dm xs) s')/\s' <= q1/\q1 - s' < q1 - s))/\((64:Int)<q2->q3=r0)) ((↑s:Int)+q0)) (fM (dm xs) s)) (1:Int)) (64:Nat)):=by kernel_rfl
theorem wO (xs:List Int):Sat Try.prog (au aJ) 95 [.c (.fn 96 [] [(0,0)])] [.arr 116 .int 65 (xs)] ⟨[],[.c (.fz .int ((fM (dm xs) 64)))],none,false⟩:=by
 refine aU lG (qN xs) Try.func95 (by decide) (by kernel_rfl) ?_
 rw [wv]
 (repeat' (first | with_reducible refine And.intro ?_ ?_ | with_reducible refine and_imp.2 ?_ | intro))
 all_goals try (first | (first | with_reducible rfl | with_reducible assumption | omega | (refine al ?_ ?_ <;> omega)) | exact rfl | exact (wb (by with_reducible assumption)) | exact (wA (by with_reducible assumption)) | exact (vE (by omega) (by omega)) | exact (jC (by omega)) | exact (And.intro (by omega) (by omega)))
 all_goals try (refine ⟨0,?_⟩; (repeat' (first | with_reducible refine And.intro ?_ ?_ | with_reducible refine and_imp.2 ?_ | intro)))
 all_goals try (first | (first | with_reducible rfl | with_reducible assumption | omega | (refine al ?_ ?_ <;> omega)) | exact rfl | exact (wb (by with_reducible assumption)) | exact (wA (by with_reducible assumption)) | exact (vE (by omega) (by omega)) | exact (jC (by omega)) | exact (And.intro (by omega) (by omega)))
 all_goals try (refine ⟨‹Nat› + 1,?_⟩; (repeat' (first | with_reducible refine And.intro ?_ ?_ | with_reducible refine and_imp.2 ?_ | intro)))
 all_goals (first | (first | with_reducible rfl | with_reducible assumption | omega | (refine al ?_ ?_ <;> omega)) | exact rfl | exact (wb (by with_reducible assumption)) | exact (wA (by with_reducible assumption)) | exact (vE (by omega) (by omega)) | exact (jC (by omega)) | exact (And.intro (by omega) (by omega)))
theorem wq (xs:List Int) (ys:List Int) (r0:List Int):dq aJ tY (pP xs ys) Try.f95 [.c (.fn 97 [] [(0,0),(1,0)])] [.arr 116 .int 65 (xs),.arr 116 .int 65 (ys)] [.c (.fz .int (r0))]=((fun (q1:Nat)=>(fun (q0:Int)=>∃ (s0:Nat),(q0=(↑s0:Int)+q0/\xs=xs/\ys=ys/\fM (dh xs ys) s0=[])/\s0<=q1/\∀ (s:Nat),(fun (q3:List Int)=>(fun (q2:Int)=>s<=q1->(q2<=(64:Int)->((0:Int)<=q2/\q2<(65:Int))/\(dh xs ys q2=true->(q3.length+[q2].length)*(8:Nat)<=(140737488355328:Nat)/\I64 (q2+q0)/\∃ (s':Nat),(q2+q0=(↑s':Int)+q0/\xs=xs/\ys=ys/\q3++[q2]=fM (dh xs ys) s')/\s' <= q1/\q1 - s' < q1 - s)/\(dh xs ys q2=false->I64 (q2+q0)/\∃ (s':Nat),(q2+q0=(↑s':Int)+q0/\xs=xs/\ys=ys/\q3=fM (dh xs ys) s')/\s' <= q1/\q1 - s' < q1 - s))/\((64:Int)<q2->q3=r0)) ((↑s:Int)+q0)) (fM (dh xs ys) s)) (1:Int)) (64:Nat)):=by kernel_rfl
theorem vL (xs:List Int) (ys:List Int):Sat Try.prog (au aJ) 95 [.c (.fn 97 [] [(0,0),(1,0)])] [.arr 116 .int 65 (xs),.arr 116 .int 65 (ys)] ⟨[],[.c (.fz .int ((fM (dh xs ys) 64)))],none,false⟩:=by
 refine aU lG (pP xs ys) Try.func95 (by decide) (by kernel_rfl) ?_
 rw [wq]
 (repeat' (first | with_reducible refine And.intro ?_ ?_ | with_reducible refine and_imp.2 ?_ | intro))
 all_goals try (first | (first | with_reducible rfl | with_reducible assumption | omega | (refine al ?_ ?_ <;> omega)) | exact rfl | exact (wb (by with_reducible assumption)) | exact (wA (by with_reducible assumption)) | exact (vE (by omega) (by omega)) | exact (jC (by omega)) | exact (And.intro (by omega) (by omega)))
 all_goals try (refine ⟨0,?_⟩; (repeat' (first | with_reducible refine And.intro ?_ ?_ | with_reducible refine and_imp.2 ?_ | intro)))
 all_goals try (first | (first | with_reducible rfl | with_reducible assumption | omega | (refine al ?_ ?_ <;> omega)) | exact rfl | exact (wb (by with_reducible assumption)) | exact (wA (by with_reducible assumption)) | exact (vE (by omega) (by omega)) | exact (jC (by omega)) | exact (And.intro (by omega) (by omega)))
 all_goals try (refine ⟨‹Nat› + 1,?_⟩; (repeat' (first | with_reducible refine And.intro ?_ ?_ | with_reducible refine and_imp.2 ?_ | intro)))
 all_goals (first | (first | with_reducible rfl | with_reducible assumption | omega | (refine al ?_ ?_ <;> omega)) | exact rfl | exact (wb (by with_reducible assumption)) | exact (wA (by with_reducible assumption)) | exact (vE (by omega) (by omega)) | exact (jC (by omega)) | exact (And.intro (by omega) (by omega)))
def tT:cJ:=(bW 95 (bQ (aj (kC (mP 97 [] [(0,0),(1,0)])) aP) (ay (oO 116 .int 65) (ay (oO 116 .int 65) aO)) fun (_,_) (xs,ys,_)=>⟨[],[.c (.fz .int ((fM (dh xs ys) 64)))],none,false⟩) (bW 95 (bQ (aj (kC (mP 96 [] [(0,0)])) aP) (ay (oO 116 .int 65) aO) fun (_,_) (xs,_)=>⟨[],[.c (.fz .int ((fM (dm xs) 64)))],none,false⟩) tY))
theorem lz:aR Try.prog (au aJ) tT:=(aC (aB (ae (aw cu) ao) (ah ft (ah ft aq)) fun (_,_) (xs,ys,_) _=>vL xs ys ) (aC (aB (ae (aw cu) ao) (ah ft aq) fun (_,_) (xs,_) _=>wO xs ) lG))
end Go.Proofs.Ytdggohppeeaipaa
namespace Go.Proofs.Ytdggohppeeaipaa
open Go.RowKit
theorem Fu (xs:List Int) (r0:List Int):dq aJ tT [] Try.f84 [.agg (jf .int (xs) 0 65)] [] [.c (.fz .int (r0))]=((fun (q1:List Int)=>(fun (q0:den Sh.int)=>I64 (xs.getD (0:Nat) q0)->I64 (xs.getD (1:Nat) q0)->I64 (xs.getD (2:Nat) q0)->I64 (xs.getD (3:Nat) q0)->I64 (xs.getD (4:Nat) q0)->I64 (xs.getD (5:Nat) q0)->I64 (xs.getD (6:Nat) q0)->I64 (xs.getD (7:Nat) q0)->I64 (xs.getD (8:Nat) q0)->I64 (xs.getD (9:Nat) q0)->I64 (xs.getD (10:Nat) q0)->I64 (xs.getD (11:Nat) q0)->I64 (xs.getD (12:Nat) q0)->I64 (xs.getD (13:Nat) q0)->I64 (xs.getD (14:Nat) q0)->I64 (xs.getD (15:Nat) q0)->I64 (xs.getD (16:Nat) q0)->I64 (xs.getD (17:Nat) q0)->I64 (xs.getD (18:Nat) q0)->I64 (xs.getD (19:Nat) q0)->I64 (xs.getD (20:Nat) q0)->I64 (xs.getD (21:Nat) q0)->I64 (xs.getD (22:Nat) q0)->I64 (xs.getD (23:Nat) q0)->I64 (xs.getD (24:Nat) q0)->I64 (xs.getD (25:Nat) q0)->I64 (xs.getD (26:Nat) q0)->I64 (xs.getD (27:Nat) q0)->I64 (xs.getD (28:Nat) q0)->I64 (xs.getD (29:Nat) q0)->I64 (xs.getD (30:Nat) q0)->I64 (xs.getD (31:Nat) q0)->I64 (xs.getD (32:Nat) q0)->I64 (xs.getD (33:Nat) q0)->I64 (xs.getD (34:Nat) q0)->I64 (xs.getD (35:Nat) q0)->I64 (xs.getD (36:Nat) q0)->I64 (xs.getD (37:Nat) q0)->I64 (xs.getD (38:Nat) q0)->I64 (xs.getD (39:Nat) q0)->I64 (xs.getD (40:Nat) q0)->I64 (xs.getD (41:Nat) q0)->I64 (xs.getD (42:Nat) q0)->I64 (xs.getD (43:Nat) q0)->I64 (xs.getD (44:Nat) q0)->I64 (xs.getD (45:Nat) q0)->I64 (xs.getD (46:Nat) q0)->I64 (xs.getD (47:Nat) q0)->I64 (xs.getD (48:Nat) q0)->I64 (xs.getD (49:Nat) q0)->I64 (xs.getD (50:Nat) q0)->I64 (xs.getD (51:Nat) q0)->I64 (xs.getD (52:Nat) q0)->I64 (xs.getD (53:Nat) q0)->I64 (xs.getD (54:Nat) q0)->I64 (xs.getD (55:Nat) q0)->I64 (xs.getD (56:Nat) q0)->I64 (xs.getD (57:Nat) q0)->I64 (xs.getD (58:Nat) q0)->I64 (xs.getD (59:Nat) q0)->I64 (xs.getD (60:Nat) q0)->I64 (xs.getD (61:Nat) q0)->I64 (xs.getD (62:Nat) q0)->I64 (xs.getD (63:Nat) q0)->I64 (xs.getD (64:Nat) q0)->q1.length*(8:Nat)<=(140737488355328:Nat)->q1=r0) (dflt Sh.int)) (fM (dm (mj Sh.int xs (0:Nat) (65:Nat))) (64:Nat))):=by kernel_rfl
theorem EN (xs:List Int) (h0:xs.length=65):Sat Try.prog (au aJ) 84 [.agg (jf .int (xs) 0 65)] [] ⟨[xs.length=65],[.c (.fz .int ((fM (dm xs) 64)))],none,false⟩:=by
 refine aU lz [] Try.func84 (by decide) (by kernel_rfl) ?_
 rw [Fu]
 (repeat' (first | with_reducible refine And.intro ?_ ?_ | with_reducible refine and_imp.2 ?_ | intro))
 all_goals (first | (first | with_reducible rfl | with_reducible assumption | omega | (refine al ?_ ?_ <;> omega)) | exact (by rw [eu h0]) | exact (by rw [eu h0]; assumption))
theorem zA (l:List Snap) (id:Int) (r0:List Int):dq aJ tT [] Try.f87 [.c (.fz (.nm .snap) (l)),.c (.int (id))] [] [.c (.fz .int (r0))]=((fun (q3:Nat)=>(fun (q2:List Int)=>(fun (q1:den Sh.int)=>(fun (q0:List Int)=>l.length*(64:Nat)<=(140737488355328:Nat)->I64 id->nch l<=(1048576:Nat)/\(I64 (q2.getD q3 q1)->I64 (q2.getD (1:Nat) q1)->I64 (q2.getD (2:Nat) q1)->I64 (q2.getD (3:Nat) q1)->I64 (q2.getD (4:Nat) q1)->I64 (q2.getD (5:Nat) q1)->I64 (q2.getD (6:Nat) q1)->I64 (q2.getD (7:Nat) q1)->I64 (q2.getD (8:Nat) q1)->I64 (q2.getD (9:Nat) q1)->I64 (q2.getD (10:Nat) q1)->I64 (q2.getD (11:Nat) q1)->I64 (q2.getD (12:Nat) q1)->I64 (q2.getD (13:Nat) q1)->I64 (q2.getD (14:Nat) q1)->I64 (q2.getD (15:Nat) q1)->I64 (q2.getD (16:Nat) q1)->I64 (q2.getD (17:Nat) q1)->I64 (q2.getD (18:Nat) q1)->I64 (q2.getD (19:Nat) q1)->I64 (q2.getD (20:Nat) q1)->I64 (q2.getD (21:Nat) q1)->I64 (q2.getD (22:Nat) q1)->I64 (q2.getD (23:Nat) q1)->I64 (q2.getD (24:Nat) q1)->I64 (q2.getD (25:Nat) q1)->I64 (q2.getD (26:Nat) q1)->I64 (q2.getD (27:Nat) q1)->I64 (q2.getD (28:Nat) q1)->I64 (q2.getD (29:Nat) q1)->I64 (q2.getD (30:Nat) q1)->I64 (q2.getD (31:Nat) q1)->I64 (q2.getD (32:Nat) q1)->I64 (q2.getD (33:Nat) q1)->I64 (q2.getD (34:Nat) q1)->I64 (q2.getD (35:Nat) q1)->I64 (q2.getD (36:Nat) q1)->I64 (q2.getD (37:Nat) q1)->I64 (q2.getD (38:Nat) q1)->I64 (q2.getD (39:Nat) q1)->I64 (q2.getD (40:Nat) q1)->I64 (q2.getD (41:Nat) q1)->I64 (q2.getD (42:Nat) q1)->I64 (q2.getD (43:Nat) q1)->I64 (q2.getD (44:Nat) q1)->I64 (q2.getD (45:Nat) q1)->I64 (q2.getD (46:Nat) q1)->I64 (q2.getD (47:Nat) q1)->I64 (q2.getD (48:Nat) q1)->I64 (q2.getD (49:Nat) q1)->I64 (q2.getD (50:Nat) q1)->I64 (q2.getD (51:Nat) q1)->I64 (q2.getD (52:Nat) q1)->I64 (q2.getD (53:Nat) q1)->I64 (q2.getD (54:Nat) q1)->I64 (q2.getD (55:Nat) q1)->I64 (q2.getD (56:Nat) q1)->I64 (q2.getD (57:Nat) q1)->I64 (q2.getD (58:Nat) q1)->I64 (q2.getD (59:Nat) q1)->I64 (q2.getD (60:Nat) q1)->I64 (q2.getD (61:Nat) q1)->I64 (q2.getD (62:Nat) q1)->I64 (q2.getD (63:Nat) q1)->I64 (q2.getD (64:Nat) q1)->nch (aZ id l)<=(1048576:Nat)/\(I64 (q0.getD q3 q1)->I64 (q0.getD (1:Nat) q1)->I64 (q0.getD (2:Nat) q1)->I64 (q0.getD (3:Nat) q1)->I64 (q0.getD (4:Nat) q1)->I64 (q0.getD (5:Nat) q1)->I64 (q0.getD (6:Nat) q1)->I64 (q0.getD (7:Nat) q1)->I64 (q0.getD (8:Nat) q1)->I64 (q0.getD (9:Nat) q1)->I64 (q0.getD (10:Nat) q1)->I64 (q0.getD (11:Nat) q1)->I64 (q0.getD (12:Nat) q1)->I64 (q0.getD (13:Nat) q1)->I64 (q0.getD (14:Nat) q1)->I64 (q0.getD (15:Nat) q1)->I64 (q0.getD (16:Nat) q1)->I64 (q0.getD (17:Nat) q1)->I64 (q0.getD (18:Nat) q1)->I64 (q0.getD (19:Nat) q1)->I64 (q0.getD (20:Nat) q1)->I64 (q0.getD (21:Nat) q1)->I64 (q0.getD (22:Nat) q1)->I64 (q0.getD (23:Nat) q1)->I64 (q0.getD (24:Nat) q1)->I64 (q0.getD (25:Nat) q1)->I64 (q0.getD (26:Nat) q1)->I64 (q0.getD (27:Nat) q1)->I64 (q0.getD (28:Nat) q1)->I64 (q0.getD (29:Nat) q1)->I64 (q0.getD (30:Nat) q1)->I64 (q0.getD (31:Nat) q1)->I64 (q0.getD (32:Nat) q1)->I64 (q0.getD (33:Nat) q1)->I64 (q0.getD (34:Nat) q1)->I64 (q0.getD (35:Nat) q1)->I64 (q0.getD (36:Nat) q1)->I64 (q0.getD (37:Nat) q1)->I64 (q0.getD (38:Nat) q1)->I64 (q0.getD (39:Nat) q1)->I64 (q0.getD (40:Nat) q1)->I64 (q0.getD (41:Nat) q1)->I64 (q0.getD (42:Nat) q1)->I64 (q0.getD (43:Nat) q1)->I64 (q0.getD (44:Nat) q1)->I64 (q0.getD (45:Nat) q1)->I64 (q0.getD (46:Nat) q1)->I64 (q0.getD (47:Nat) q1)->I64 (q0.getD (48:Nat) q1)->I64 (q0.getD (49:Nat) q1)->I64 (q0.getD (50:Nat) q1)->I64 (q0.getD (51:Nat) q1)->I64 (q0.getD (52:Nat) q1)->I64 (q0.getD (53:Nat) q1)->I64 (q0.getD (54:Nat) q1)->I64 (q0.getD (55:Nat) q1)->I64 (q0.getD (56:Nat) q1)->I64 (q0.getD (57:Nat) q1)->I64 (q0.getD (58:Nat) q1)->I64 (q0.getD (59:Nat) q1)->I64 (q0.getD (60:Nat) q1)->I64 (q0.getD (61:Nat) q1)->I64 (q0.getD (62:Nat) q1)->I64 (q0.getD (63:Nat) q1)->I64 (q0.getD (64:Nat) q1)->(fM (dh (mj Sh.int q2 q3 (65:Nat)) (mj Sh.int q0 q3 (65:Nat))) (64:Nat)).length*(8:Nat)<=(140737488355328:Nat)->fM (dh (mj Sh.int q2 q3 (65:Nat)) (mj Sh.int q0 q3 (65:Nat))) (64:Nat)=r0))) (bA (aZ id l))) (dflt Sh.int)) (bA l)) (0:Nat)):=by kernel_rfl
theorem zG (l:List Snap) (id:Int) (h0:nch l<=1048576):Sat Try.prog (au aJ) 87 [.c (.fz (.nm .snap) (l)),.c (.int (id))] [] ⟨[nch l<=1048576],[.c (.fz .int ((fo l id)))],none,false⟩:=by
 refine aU lz [] Try.func87 (by decide) (by kernel_rfl) ?_
 rw [zA]
 (repeat' (first | with_reducible refine And.intro ?_ ?_ | with_reducible refine and_imp.2 ?_ | intro))
 all_goals (first | (first | with_reducible rfl | with_reducible assumption | omega | (refine al ?_ ?_ <;> omega)) | exact (EH (by assumption)) | exact (by rw [eu (dS _),eu (dS _)]; exact xm _ _ _ rfl))
def tI:cJ:=(bW 87 (bQ (aj (kC (cL (.nm .snap))) (aj (kC cI) aP)) aO fun (l,id,_) (_)=>⟨[nch l<=1048576],[.c (.fz .int ((fo l id)))],none,false⟩) (bW 84 (bQ (aj (kA .int 65) aP) aO fun (xs,_) (_)=>⟨[xs.length=65],[.c (.fz .int ((fM (dm xs) 64)))],none,false⟩) tT))
theorem lR:aR Try.prog (au aJ) tI:=(aC (aB (ae (aw bR) (ae (aw ax) ao)) aq fun (l,id,_) (_) hp=>zG l id (fh hp)) (aC (aB (ae Gw ao) aq fun (xs,_) (_) hp=>EN xs (fh hp)) lz))
end Go.Proofs.Ytdggohppeeaipaa
