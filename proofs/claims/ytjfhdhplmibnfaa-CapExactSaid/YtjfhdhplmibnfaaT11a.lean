import Derived.Test.YtjfhdhplmibnfaaG
import Derived.Test.YtjfhdhplmibnfaaProg
import Derived.KernelRfl
namespace Go.Proofs.Ytjfhdhplmibnfaa
open Go Go.AM

/- multikernel/captype.sizeAllowed -/
def E67 : Env := envG 38 [4] [] []
def A67 : List SV := [(.c (.int .i64 (.var 0))), (.c (.int .i64 (.var 1)))]
def T67 : STree := (.branch (.cmp .eql (.var 0) (.lit 1))
 (.branch (.cmp .geq (.var 1) (.lit 6))
  (.ret (.c (.bool (.cmp .leq (.var 1) (.lit 40)))) [.dead, .dead])
  (.ret (.c (.bool (.lit false))) [.dead, .dead]))
 (.branch (.cmp .eql (.var 0) (.lit 2))
  (.branch (.cmp .geq (.var 1) (.lit 12))
   (.ret (.c (.bool (.cmp .leq (.var 1) (.lit 40)))) [.dead, .dead])
   (.ret (.c (.bool (.lit false))) [.dead, .dead]))
  (.branch (.cmp .eql (.var 0) (.lit 3))
   (.ret (.c (.bool (.cmp .eql (.var 1) (.lit 12)))) [.dead, .dead])
   (.branch (.cmp .eql (.var 0) (.lit 4))
    (.ret (.c (.bool (.cmp .eql (.var 1) (.lit 6)))) [.dead, .dead])
    (.branch (.cmp .eql (.var 0) (.lit 5))
     (.ret (.c (.bool (.cmp .eql (.var 1) (.lit 10)))) [.dead, .dead])
     (.branch (.cmp .eql (.var 0) (.lit 6))
      (.ret (.c (.bool (.cmp .eql (.var 1) (.lit 16)))) [.dead, .dead])
      (.ret (.c (.bool (.lit false))) [.dead, .dead])))))))
theorem eq67 : evFn Try.prog E67 Try.f67 A67 2 = T67 := by kernel_rfl

/- multikernel/captype.formatAllowed -/
def E68 : Env := envG 22 [4] [] []
def A68 : List SV := [(.c (.int .i64 (.var 0))), (.c (.int .i64 (.var 1)))]
def T68 : STree := (.branch (.cmp .eql (.var 0) (.lit 32))
 (.branch (.cmp .geq (.var 1) (.lit 0))
  (.ret (.c (.bool (.cmp .leq (.var 1) (.lit 1)))) [.dead, .dead])
  (.ret (.c (.bool (.lit false))) [.dead, .dead]))
 (.branch (.cmp .eql (.var 0) (.lit 39))
  (.branch (.cmp .geq (.var 1) (.lit 0))
   (.ret (.c (.bool (.cmp .leq (.var 1) (.lit 2)))) [.dead, .dead])
   (.ret (.c (.bool (.lit false))) [.dead, .dead]))
  (.ret (.c (.bool (.lit false))) [.dead, .dead])))
theorem eq68 : evFn Try.prog E68 Try.f68 A68 2 = T68 := by kernel_rfl

/- multikernel/memrange.Valid -/
def E71 : Env := envG 32 [2] [] []
def A71 : List SV := [(.agg [(.int .i64 (.var 0)), (.int .i64 (.var 1))])]
def T71 : STree := (.branch (.cmp .lss (.var 1) (.lit 6))
 (.ret (.c (.bool (.lit false))) [.dead])
 (.branch (.cmp .gtr (.var 1) (.lit 40))
  (.ret (.c (.bool (.lit false))) [.dead])
  (.branch (.cmp .lss (.var 0) (.lit 0))
   (.ret (.c (.bool (.lit false))) [.dead])
   (.req (.le (.lit 0) (.var 1))
    (.req (.ne0 (.bin .shl .i64 (.lit 1) (.var 1)))
    (.branch (.cmp .eql (.bin .rem .i64 (.var 0) (.bin .shl .i64 (.lit 1) (.var 1))) (.lit 0))
    (.ret (.c (.bool (.cmp .leq (.var 0) (.bin .sub .i64 (.lit 1099511627776) (.bin .shl .i64 (.lit 1) (.var 1)))))) [.dead])
    (.ret (.c (.bool (.lit false))) [.dead])))))))
theorem eq71 : evFn Try.prog E71 Try.f71 A71 2 = T71 := by kernel_rfl

/- multikernel/memrange.End -/
def E95 : Env := envG 12 [2] [] []
def A95 : List SV := [(.agg [(.int .i64 (.var 0)), (.int .i64 (.var 1))])]
def T95 : STree := (.call 71 [(.agg [(.int .i64 (.var 0)), (.int .i64 (.var 1))])] (.c (.bool (.var 2))) [.dead] 2 [.bool]
 (.branch (.not (.var 2))
 (.ret (.c (.int .i64 (.lit 0))) [.dead])
 (.req (.le (.lit 0) (.var 1))
  (.ret (.c (.int .i64 (.bin .add .i64 (.var 0) (.bin .shl .i64 (.lit 1) (.var 1))))) [.dead]))))
theorem eq95 : evFn Try.prog E95 Try.f95 A95 2 = T95 := by kernel_rfl

/- multikernel/memrange.Overlaps -/
def E73 : Env := envG 25 [4] [] []
def A73 : List SV := [(.agg [(.int .i64 (.var 0)), (.int .i64 (.var 1))]), (.agg [(.int .i64 (.var 2)), (.int .i64 (.var 3))])]
def T73 : STree := (.call 71 [(.agg [(.int .i64 (.var 0)), (.int .i64 (.var 1))])] (.c (.bool (.var 4))) [.dead] 4 [.bool]
 (.branch (.var 4)
 (.call 71 [(.agg [(.int .i64 (.var 2)), (.int .i64 (.var 3))])] (.c (.bool (.var 5))) [.dead] 5 [.bool]
  (.branch (.var 5)
  (.call 95 [(.agg [(.int .i64 (.var 2)), (.int .i64 (.var 3))])] (.c (.int .i64 (.var 6))) [.dead] 6 [(.int .i64)]
   (.branch (.cmp .lss (.var 0) (.var 6))
   (.call 95 [(.agg [(.int .i64 (.var 0)), (.int .i64 (.var 1))])] (.c (.int .i64 (.var 7))) [.dead] 7 [(.int .i64)]
    (.ret (.c (.bool (.cmp .lss (.var 2) (.var 7)))) [.dead, .dead]))
   (.ret (.c (.bool (.lit false))) [.dead, .dead])))
  (.ret (.c (.bool (.lit false))) [.dead, .dead])))
 (.ret (.c (.bool (.lit false))) [.dead, .dead])))
theorem eq73 : evFn Try.prog E73 Try.f73 A73 4 = T73 := by kernel_rfl

/- multikernel/memrange.Contains -/
def E74 : Env := envG 25 [4] [] []
def A74 : List SV := [(.agg [(.int .i64 (.var 0)), (.int .i64 (.var 1))]), (.agg [(.int .i64 (.var 2)), (.int .i64 (.var 3))])]
def T74 : STree := (.call 71 [(.agg [(.int .i64 (.var 0)), (.int .i64 (.var 1))])] (.c (.bool (.var 4))) [.dead] 4 [.bool]
 (.branch (.var 4)
 (.call 71 [(.agg [(.int .i64 (.var 2)), (.int .i64 (.var 3))])] (.c (.bool (.var 5))) [.dead] 5 [.bool]
  (.branch (.var 5)
  (.branch (.cmp .leq (.var 0) (.var 2))
   (.call 95 [(.agg [(.int .i64 (.var 2)), (.int .i64 (.var 3))])] (.c (.int .i64 (.var 6))) [.dead] 6 [(.int .i64)]
    (.call 95 [(.agg [(.int .i64 (.var 0)), (.int .i64 (.var 1))])] (.c (.int .i64 (.var 7))) [.dead] 7 [(.int .i64)]
    (.ret (.c (.bool (.cmp .leq (.var 6) (.var 7)))) [.dead, .dead])))
   (.ret (.c (.bool (.lit false))) [.dead, .dead]))
  (.ret (.c (.bool (.lit false))) [.dead, .dead])))
 (.ret (.c (.bool (.lit false))) [.dead, .dead])))
theorem eq74 : evFn Try.prog E74 Try.f74 A74 4 = T74 := by kernel_rfl

/- multikernel/captype.Range -/
def E32 : Env := envG 8 [2] [] []
def A32 : List SV := [(.agg [(.int .i64 (.var 0)), (.int .i64 (.var 1)), (.int .i64 (.var 2)), (.int .i64 (.var 3)), (.int .i64 (.var 4)), (.int .i64 (.var 5)), (.bool (.var 6))])]
def T32 : STree := (.ret (.agg [(.int .i64 (.var 1)), (.int .i64 (.var 2))]) [.dead])
theorem eq32 : evFn Try.prog E32 Try.f32 A32 7 = T32 := by kernel_rfl

/- multikernel/captype.Valid -/
def E28 : Env := envG 55 [2] [] []
def A28 : List SV := [(.agg [(.int .i64 (.var 0)), (.int .i64 (.var 1)), (.int .i64 (.var 2)), (.int .i64 (.var 3)), (.int .i64 (.var 4)), (.int .i64 (.var 5)), (.bool (.var 6))])]
def T28 : STree := (.call 67 [(.c (.int .i64 (.var 0))), (.c (.int .i64 (.var 2)))] (.c (.bool (.var 7))) [.dead, .dead] 7 [.bool]
 (.branch (.not (.var 7))
 (.ret (.c (.bool (.lit false))) [.dead])
 (.call 32 [(.agg [(.int .i64 (.var 0)), (.int .i64 (.var 1)), (.int .i64 (.var 2)), (.int .i64 (.var 3)), (.int .i64 (.var 4)), (.int .i64 (.var 5)), (.bool (.var 6))])] (.agg [(.int .i64 (.var 8)), (.int .i64 (.var 9))]) [.dead] 8 [(.int .i64), (.int .i64)]
  (.call 71 [(.agg [(.int .i64 (.var 8)), (.int .i64 (.var 9))])] (.c (.bool (.var 10))) [.dead] 10 [.bool]
  (.branch (.not (.var 10))
  (.ret (.c (.bool (.lit false))) [.dead])
  (.branch (.cmp .lss (.var 3) (.lit 0))
   (.ret (.c (.bool (.lit false))) [.dead])
   (.branch (.cmp .gtr (.var 3) (.lit 7))
    (.ret (.c (.bool (.lit false))) [.dead])
    (.branch (.cmp .eql (.var 0) (.lit 3))
     (.call 68 [(.c (.int .i64 (.var 4))), (.c (.int .i64 (.var 5)))] (.c (.bool (.var 11))) [.dead, .dead] 11 [.bool]
      (.branch (.not (.var 11))
      (.ret (.c (.bool (.lit false))) [.dead])
      (.branch (.not (.var 6))
       (.ret (.c (.bool (.lit true))) [.dead])
       (.branch (.cmp .eql (.var 0) (.lit 1))
        (.ret (.c (.bool (.lit true))) [.dead])
        (.ret (.c (.bool (.cmp .eql (.var 0) (.lit 2)))) [.dead])))))
     (.branch (.cmp .neq (.var 4) (.lit 0))
      (.ret (.c (.bool (.lit false))) [.dead])
      (.branch (.cmp .neq (.var 5) (.lit 0))
       (.ret (.c (.bool (.lit false))) [.dead])
       (.branch (.not (.var 6))
        (.ret (.c (.bool (.lit true))) [.dead])
        (.branch (.cmp .eql (.var 0) (.lit 1))
         (.ret (.c (.bool (.lit true))) [.dead])
         (.ret (.c (.bool (.cmp .eql (.var 0) (.lit 2)))) [.dead])))))))))))))
theorem eq28 : evFn Try.prog E28 Try.f28 A28 7 = T28 := by kernel_rfl

/- multikernel/captype.SameObject -/
def E27 : Env := envG 10 [4] [] []
def A27 : List SV := [(.agg [(.int .i64 (.var 0)), (.int .i64 (.var 1)), (.int .i64 (.var 2)), (.int .i64 (.var 3)), (.int .i64 (.var 4)), (.int .i64 (.var 5)), (.bool (.var 6))]), (.agg [(.int .i64 (.var 7)), (.int .i64 (.var 8)), (.int .i64 (.var 9)), (.int .i64 (.var 10)), (.int .i64 (.var 11)), (.int .i64 (.var 12)), (.bool (.var 13))])]
def T27 : STree := (.ret (.c (.bool (.and (.cmp .eql (.var 0) (.var 7)) (.and (.cmp .eql (.var 1) (.var 8)) (.and (.cmp .eql (.var 2) (.var 9)) (.and (.cmp .eql (.lit 0) (.lit 0)) (.and (.cmp .eql (.var 4) (.var 11)) (.and (.cmp .eql (.var 5) (.var 12)) (.and (.beq (.var 6) (.var 13)) (.lit true)))))))))) [.dead, .dead])
theorem eq27 : evFn Try.prog E27 Try.f27 A27 14 = T27 := by kernel_rfl

/- multikernel/captype.Coexist -/
def E30 : Env := envG 40 [4] [] []
def A30 : List SV := [(.agg [(.int .i64 (.var 0)), (.int .i64 (.var 1)), (.int .i64 (.var 2)), (.int .i64 (.var 3)), (.int .i64 (.var 4)), (.int .i64 (.var 5)), (.bool (.var 6))]), (.agg [(.int .i64 (.var 7)), (.int .i64 (.var 8)), (.int .i64 (.var 9)), (.int .i64 (.var 10)), (.int .i64 (.var 11)), (.int .i64 (.var 12)), (.bool (.var 13))])]
def T30 : STree := (.call 32 [(.agg [(.int .i64 (.var 0)), (.int .i64 (.var 1)), (.int .i64 (.var 2)), (.int .i64 (.var 3)), (.int .i64 (.var 4)), (.int .i64 (.var 5)), (.bool (.var 6))])] (.agg [(.int .i64 (.var 14)), (.int .i64 (.var 15))]) [.dead] 14 [(.int .i64), (.int .i64)]
 (.call 32 [(.agg [(.int .i64 (.var 7)), (.int .i64 (.var 8)), (.int .i64 (.var 9)), (.int .i64 (.var 10)), (.int .i64 (.var 11)), (.int .i64 (.var 12)), (.bool (.var 13))])] (.agg [(.int .i64 (.var 16)), (.int .i64 (.var 17))]) [.dead] 16 [(.int .i64), (.int .i64)]
 (.call 73 [(.agg [(.int .i64 (.var 14)), (.int .i64 (.var 15))]), (.agg [(.int .i64 (.var 16)), (.int .i64 (.var 17))])] (.c (.bool (.var 18))) [.dead, .dead] 18 [.bool]
 (.branch (.not (.var 18))
 (.ret (.c (.bool (.lit true))) [.dead, .dead])
 (.call 27 [(.agg [(.int .i64 (.var 0)), (.int .i64 (.var 1)), (.int .i64 (.var 2)), (.int .i64 (.var 3)), (.int .i64 (.var 4)), (.int .i64 (.var 5)), (.bool (.var 6))]), (.agg [(.int .i64 (.var 7)), (.int .i64 (.var 8)), (.int .i64 (.var 9)), (.int .i64 (.var 10)), (.int .i64 (.var 11)), (.int .i64 (.var 12)), (.bool (.var 13))])] (.c (.bool (.var 19))) [.dead, .dead] 19 [.bool]
  (.branch (.var 19)
  (.ret (.c (.bool (.lit true))) [.dead, .dead])
  (.branch (.cmp .eql (.var 0) (.lit 1))
   (.call 74 [(.agg [(.int .i64 (.var 14)), (.int .i64 (.var 15))]), (.agg [(.int .i64 (.var 16)), (.int .i64 (.var 17))])] (.c (.bool (.var 20))) [.dead, .dead] 20 [.bool]
    (.branch (.var 20)
    (.ret (.c (.bool (.lit true))) [.dead, .dead])
    (.branch (.cmp .eql (.var 7) (.lit 1))
     (.call 74 [(.agg [(.int .i64 (.var 16)), (.int .i64 (.var 17))]), (.agg [(.int .i64 (.var 14)), (.int .i64 (.var 15))])] (.c (.bool (.var 21))) [.dead, .dead] 21 [.bool]
      (.ret (.c (.bool (.var 21))) [.dead, .dead]))
     (.ret (.c (.bool (.lit false))) [.dead, .dead]))))
   (.branch (.cmp .eql (.var 7) (.lit 1))
    (.call 74 [(.agg [(.int .i64 (.var 16)), (.int .i64 (.var 17))]), (.agg [(.int .i64 (.var 14)), (.int .i64 (.var 15))])] (.c (.bool (.var 20))) [.dead, .dead] 20 [.bool]
     (.ret (.c (.bool (.var 20))) [.dead, .dead]))
    (.ret (.c (.bool (.lit false))) [.dead, .dead])))))))))
theorem eq30 : evFn Try.prog E30 Try.f30 A30 14 = T30 := by kernel_rfl

/- multikernel/captype.Attenuate -/
def E26 : Env := envG 11 [4] [] []
def A26 : List SV := [(.agg [(.int .i64 (.var 0)), (.int .i64 (.var 1)), (.int .i64 (.var 2)), (.int .i64 (.var 3)), (.int .i64 (.var 4)), (.int .i64 (.var 5)), (.bool (.var 6))]), (.c (.int .i64 (.var 7)))]
def T26 : STree := (.ret (.agg [(.int .i64 (.var 0)), (.int .i64 (.var 1)), (.int .i64 (.var 2)), (.int .i64 (.bin .and .i64 (.var 3) (.var 7))), (.int .i64 (.var 4)), (.int .i64 (.var 5)), (.bool (.var 6))]) [.dead, .dead])
theorem eq26 : evFn Try.prog E26 Try.f26 A26 8 = T26 := by kernel_rfl

/- multikernel/multikernelref10.fixed -/
def E94 : Env := envG 12 [2] [] []
def A94 : List SV := [(.c (.int .i64 (.var 0)))]
def T94 : STree := (.branch (.cmp .eql (.var 0) (.lit 3))
 (.ret (.c (.int .i64 (.lit 12))) [.dead])
 (.branch (.cmp .eql (.var 0) (.lit 4))
  (.ret (.c (.int .i64 (.lit 6))) [.dead])
  (.branch (.cmp .eql (.var 0) (.lit 5))
   (.ret (.c (.int .i64 (.lit 10))) [.dead])
   (.branch (.cmp .eql (.var 0) (.lit 6))
    (.ret (.c (.int .i64 (.lit 16))) [.dead])
    (.ret (.c (.int .i64 (.lit 0))) [.dead])))))
theorem eq94 : evFn Try.prog E94 Try.f94 A94 1 = T94 := by kernel_rfl

/- multikernel/multikernelref10.sized -/
def E69 : Env := envG 35 [4] [] []
def A69 : List SV := [(.c (.int .i64 (.var 0))), (.c (.int .i64 (.var 1)))]
def T69 : STree := (.branch (.cmp .eql (.var 0) (.lit 1))
 (.branch (.cmp .geq (.var 1) (.lit 6))
  (.ret (.c (.bool (.cmp .leq (.var 1) (.lit 40)))) [.dead, .dead])
  (.ret (.c (.bool (.lit false))) [.dead, .dead]))
 (.branch (.cmp .eql (.var 0) (.lit 2))
  (.branch (.cmp .geq (.var 1) (.lit 12))
   (.ret (.c (.bool (.cmp .leq (.var 1) (.lit 40)))) [.dead, .dead])
   (.ret (.c (.bool (.lit false))) [.dead, .dead]))
  (.branch (.cmp .geq (.var 0) (.lit 3))
   (.branch (.cmp .leq (.var 0) (.lit 6))
    (.call 94 [(.c (.int .i64 (.var 0)))] (.c (.int .i64 (.var 2))) [.dead] 2 [(.int .i64)]
     (.ret (.c (.bool (.cmp .eql (.var 1) (.var 2)))) [.dead, .dead]))
    (.ret (.c (.bool (.lit false))) [.dead, .dead]))
   (.ret (.c (.bool (.lit false))) [.dead, .dead]))))
theorem eq69 : evFn Try.prog E69 Try.f69 A69 2 = T69 := by kernel_rfl

/- multikernel/multikernelref10.leveled -/
def E70 : Env := envG 23 [4] [] []
def A70 : List SV := [(.c (.int .i64 (.var 0))), (.c (.int .i64 (.var 1)))]
def T70 : STree := (.branch (.cmp .geq (.var 1) (.lit 0))
 (.branch (.cmp .eql (.var 0) (.lit 32))
  (.branch (.cmp .leq (.var 1) (.lit 1))
   (.ret (.c (.bool (.lit true))) [.dead, .dead])
   (.branch (.cmp .eql (.var 0) (.lit 39))
    (.ret (.c (.bool (.cmp .leq (.var 1) (.lit 2)))) [.dead, .dead])
    (.ret (.c (.bool (.lit false))) [.dead, .dead])))
  (.branch (.cmp .eql (.var 0) (.lit 39))
   (.ret (.c (.bool (.cmp .leq (.var 1) (.lit 2)))) [.dead, .dead])
   (.ret (.c (.bool (.lit false))) [.dead, .dead])))
 (.ret (.c (.bool (.lit false))) [.dead, .dead]))
theorem eq70 : evFn Try.prog E70 Try.f70 A70 2 = T70 := by kernel_rfl

/- multikernel/multikernelref10.Range -/
def E34 : Env := envG 8 [2] [] []
def A34 : List SV := [(.agg [(.int .i64 (.var 0)), (.int .i64 (.var 1)), (.int .i64 (.var 2)), (.int .i64 (.var 3)), (.int .i64 (.var 4)), (.int .i64 (.var 5)), (.bool (.var 6))])]
def T34 : STree := (.ret (.agg [(.int .i64 (.var 1)), (.int .i64 (.var 2))]) [.dead])
theorem eq34 : evFn Try.prog E34 Try.f34 A34 7 = T34 := by kernel_rfl

/- multikernel/multikernelref10.ValidCap -/
def E33 : Env := envG 64 [2] [] []
def A33 : List SV := [(.agg [(.int .i64 (.var 0)), (.int .i64 (.var 1)), (.int .i64 (.var 2)), (.int .i64 (.var 3)), (.int .i64 (.var 4)), (.int .i64 (.var 5)), (.bool (.var 6))])]
def T33 : STree := (.call 69 [(.c (.int .i64 (.var 0))), (.c (.int .i64 (.var 2)))] (.c (.bool (.var 7))) [.dead, .dead] 7 [.bool]
 (.branch (.not (.var 7))
 (.ret (.c (.bool (.lit false))) [.dead])
 (.call 34 [(.agg [(.int .i64 (.var 0)), (.int .i64 (.var 1)), (.int .i64 (.var 2)), (.int .i64 (.var 3)), (.int .i64 (.var 4)), (.int .i64 (.var 5)), (.bool (.var 6))])] (.agg [(.int .i64 (.var 8)), (.int .i64 (.var 9))]) [.dead] 8 [(.int .i64), (.int .i64)]
  (.call 75 [(.agg [(.int .i64 (.var 8)), (.int .i64 (.var 9))])] (.c (.bool (.var 10))) [.dead] 10 [.bool]
  (.branch (.not (.var 10))
  (.ret (.c (.bool (.lit false))) [.dead])
  (.branch (.cmp .lss (.var 3) (.lit 0))
   (.ret (.c (.bool (.lit false))) [.dead])
   (.branch (.cmp .gtr (.var 3) (.lit 7))
    (.ret (.c (.bool (.lit false))) [.dead])
    (.branch (.cmp .eql (.var 0) (.lit 3))
     (.call 70 [(.c (.int .i64 (.var 4))), (.c (.int .i64 (.var 5)))] (.c (.bool (.var 11))) [.dead, .dead] 11 [.bool]
      (.branch (.not (.var 11))
      (.ret (.c (.bool (.lit false))) [.dead])
      (.branch (.cmp .neq (.var 0) (.lit 3))
       (.branch (.cmp .neq (.var 4) (.lit 0))
        (.ret (.c (.bool (.lit false))) [.dead])
        (.branch (.cmp .neq (.var 5) (.lit 0))
         (.ret (.c (.bool (.lit false))) [.dead])
         (.branch (.not (.var 6))
          (.ret (.c (.bool (.lit true))) [.dead])
          (.branch (.cmp .eql (.var 0) (.lit 1))
           (.ret (.c (.bool (.lit true))) [.dead])
           (.ret (.c (.bool (.cmp .eql (.var 0) (.lit 2)))) [.dead])))))
       (.branch (.not (.var 6))
        (.ret (.c (.bool (.lit true))) [.dead])
        (.branch (.cmp .eql (.var 0) (.lit 1))
         (.ret (.c (.bool (.lit true))) [.dead])
         (.ret (.c (.bool (.cmp .eql (.var 0) (.lit 2)))) [.dead]))))))
     (.branch (.cmp .neq (.var 0) (.lit 3))
      (.branch (.cmp .neq (.var 4) (.lit 0))
       (.ret (.c (.bool (.lit false))) [.dead])
       (.branch (.cmp .neq (.var 5) (.lit 0))
        (.ret (.c (.bool (.lit false))) [.dead])
        (.branch (.not (.var 6))
         (.ret (.c (.bool (.lit true))) [.dead])
         (.branch (.cmp .eql (.var 0) (.lit 1))
          (.ret (.c (.bool (.lit true))) [.dead])
          (.ret (.c (.bool (.cmp .eql (.var 0) (.lit 2)))) [.dead])))))
      (.branch (.not (.var 6))
       (.ret (.c (.bool (.lit true))) [.dead])
       (.branch (.cmp .eql (.var 0) (.lit 1))
        (.ret (.c (.bool (.lit true))) [.dead])
        (.ret (.c (.bool (.cmp .eql (.var 0) (.lit 2)))) [.dead]))))))))))))
theorem eq33 : evFn Try.prog E33 Try.f33 A33 7 = T33 := by kernel_rfl

/- multikernel/multikernelref10.ValidRange -/
def E75 : Env := envG 38 [2] [] []
def A75 : List SV := [(.agg [(.int .i64 (.var 0)), (.int .i64 (.var 1))])]
def T75 : STree := (.branch (.cmp .lss (.var 1) (.lit 6))
 (.ret (.c (.bool (.lit false))) [.dead])
 (.branch (.cmp .gtr (.var 1) (.lit 40))
  (.ret (.c (.bool (.lit false))) [.dead])
  (.branch (.cmp .lss (.var 0) (.lit 0))
   (.ret (.c (.bool (.lit false))) [.dead])
   (.branch (.cmp .geq (.var 0) (.lit 1099511627776))
    (.ret (.c (.bool (.lit false))) [.dead])
    (.req (.le (.lit 0) (.conv .u64 (.var 1)))
     (.req (.ne0 (.bin .shl .i64 (.lit 1) (.conv .u64 (.var 1))))
     (.branch (.cmp .eql (.bin .rem .i64 (.var 0) (.bin .shl .i64 (.lit 1) (.conv .u64 (.var 1)))) (.lit 0))
     (.ret (.c (.bool (.cmp .leq (.bin .add .i64 (.var 0) (.bin .shl .i64 (.lit 1) (.conv .u64 (.var 1)))) (.lit 1099511627776)))) [.dead])
     (.ret (.c (.bool (.lit false))) [.dead]))))))))
theorem eq75 : evFn Try.prog E75 Try.f75 A75 2 = T75 := by kernel_rfl

/- multikernel/multikernelref10.End -/
def E76 : Env := envG 13 [2] [] []
def A76 : List SV := [(.agg [(.int .i64 (.var 0)), (.int .i64 (.var 1))])]
def T76 : STree := (.call 75 [(.agg [(.int .i64 (.var 0)), (.int .i64 (.var 1))])] (.c (.bool (.var 2))) [.dead] 2 [.bool]
 (.branch (.not (.var 2))
 (.ret (.c (.int .i64 (.lit 0))) [.dead])
 (.req (.le (.lit 0) (.conv .u64 (.var 1)))
  (.ret (.c (.int .i64 (.bin .add .i64 (.var 0) (.bin .shl .i64 (.lit 1) (.conv .u64 (.var 1)))))) [.dead]))))
theorem eq76 : evFn Try.prog E76 Try.f76 A76 2 = T76 := by kernel_rfl

/- multikernel/multikernelref10.Overlaps -/
def E31 : Env := envG 25 [4] [] []
def A31 : List SV := [(.agg [(.int .i64 (.var 0)), (.int .i64 (.var 1))]), (.agg [(.int .i64 (.var 2)), (.int .i64 (.var 3))])]
def T31 : STree := (.call 75 [(.agg [(.int .i64 (.var 0)), (.int .i64 (.var 1))])] (.c (.bool (.var 4))) [.dead] 4 [.bool]
 (.branch (.var 4)
 (.call 75 [(.agg [(.int .i64 (.var 2)), (.int .i64 (.var 3))])] (.c (.bool (.var 5))) [.dead] 5 [.bool]
  (.branch (.var 5)
  (.call 76 [(.agg [(.int .i64 (.var 2)), (.int .i64 (.var 3))])] (.c (.int .i64 (.var 6))) [.dead] 6 [(.int .i64)]
   (.branch (.cmp .lss (.var 0) (.var 6))
   (.call 76 [(.agg [(.int .i64 (.var 0)), (.int .i64 (.var 1))])] (.c (.int .i64 (.var 7))) [.dead] 7 [(.int .i64)]
    (.ret (.c (.bool (.cmp .lss (.var 2) (.var 7)))) [.dead, .dead]))
   (.ret (.c (.bool (.lit false))) [.dead, .dead])))
  (.ret (.c (.bool (.lit false))) [.dead, .dead])))
 (.ret (.c (.bool (.lit false))) [.dead, .dead])))
theorem eq31 : evFn Try.prog E31 Try.f31 A31 4 = T31 := by kernel_rfl

/- multikernel/multikernelref10.Contains -/
def E77 : Env := envG 25 [4] [] []
def A77 : List SV := [(.agg [(.int .i64 (.var 0)), (.int .i64 (.var 1))]), (.agg [(.int .i64 (.var 2)), (.int .i64 (.var 3))])]
def T77 : STree := (.call 75 [(.agg [(.int .i64 (.var 0)), (.int .i64 (.var 1))])] (.c (.bool (.var 4))) [.dead] 4 [.bool]
 (.branch (.var 4)
 (.call 75 [(.agg [(.int .i64 (.var 2)), (.int .i64 (.var 3))])] (.c (.bool (.var 5))) [.dead] 5 [.bool]
  (.branch (.var 5)
  (.branch (.cmp .leq (.var 0) (.var 2))
   (.call 76 [(.agg [(.int .i64 (.var 2)), (.int .i64 (.var 3))])] (.c (.int .i64 (.var 6))) [.dead] 6 [(.int .i64)]
    (.call 76 [(.agg [(.int .i64 (.var 0)), (.int .i64 (.var 1))])] (.c (.int .i64 (.var 7))) [.dead] 7 [(.int .i64)]
    (.ret (.c (.bool (.cmp .leq (.var 6) (.var 7)))) [.dead, .dead])))
   (.ret (.c (.bool (.lit false))) [.dead, .dead]))
  (.ret (.c (.bool (.lit false))) [.dead, .dead])))
 (.ret (.c (.bool (.lit false))) [.dead, .dead])))
theorem eq77 : evFn Try.prog E77 Try.f77 A77 4 = T77 := by kernel_rfl

/- multikernel/multikernelref10.SameObject -/
def E35 : Env := envG 45 [4] [] []
def A35 : List SV := [(.agg [(.int .i64 (.var 0)), (.int .i64 (.var 1)), (.int .i64 (.var 2)), (.int .i64 (.var 3)), (.int .i64 (.var 4)), (.int .i64 (.var 5)), (.bool (.var 6))]), (.agg [(.int .i64 (.var 7)), (.int .i64 (.var 8)), (.int .i64 (.var 9)), (.int .i64 (.var 10)), (.int .i64 (.var 11)), (.int .i64 (.var 12)), (.bool (.var 13))])]
def T35 : STree := (.branch (.cmp .eql (.var 0) (.var 7))
 (.branch (.cmp .eql (.var 1) (.var 8))
  (.branch (.cmp .eql (.var 2) (.var 9))
   (.branch (.cmp .eql (.var 4) (.var 11))
    (.branch (.cmp .eql (.var 5) (.var 12))
     (.ret (.c (.bool (.beq (.var 6) (.var 13)))) [.dead, .dead])
     (.ret (.c (.bool (.lit false))) [.dead, .dead]))
    (.ret (.c (.bool (.lit false))) [.dead, .dead]))
   (.ret (.c (.bool (.lit false))) [.dead, .dead]))
  (.ret (.c (.bool (.lit false))) [.dead, .dead]))
 (.ret (.c (.bool (.lit false))) [.dead, .dead]))
theorem eq35 : evFn Try.prog E35 Try.f35 A35 14 = T35 := by kernel_rfl

/- multikernel/multikernelref10.Coexist -/
def E36 : Env := envG 38 [4] [] []
def A36 : List SV := [(.agg [(.int .i64 (.var 0)), (.int .i64 (.var 1)), (.int .i64 (.var 2)), (.int .i64 (.var 3)), (.int .i64 (.var 4)), (.int .i64 (.var 5)), (.bool (.var 6))]), (.agg [(.int .i64 (.var 7)), (.int .i64 (.var 8)), (.int .i64 (.var 9)), (.int .i64 (.var 10)), (.int .i64 (.var 11)), (.int .i64 (.var 12)), (.bool (.var 13))])]
def T36 : STree := (.call 34 [(.agg [(.int .i64 (.var 0)), (.int .i64 (.var 1)), (.int .i64 (.var 2)), (.int .i64 (.var 3)), (.int .i64 (.var 4)), (.int .i64 (.var 5)), (.bool (.var 6))])] (.agg [(.int .i64 (.var 14)), (.int .i64 (.var 15))]) [.dead] 14 [(.int .i64), (.int .i64)]
 (.call 34 [(.agg [(.int .i64 (.var 7)), (.int .i64 (.var 8)), (.int .i64 (.var 9)), (.int .i64 (.var 10)), (.int .i64 (.var 11)), (.int .i64 (.var 12)), (.bool (.var 13))])] (.agg [(.int .i64 (.var 16)), (.int .i64 (.var 17))]) [.dead] 16 [(.int .i64), (.int .i64)]
 (.call 31 [(.agg [(.int .i64 (.var 14)), (.int .i64 (.var 15))]), (.agg [(.int .i64 (.var 16)), (.int .i64 (.var 17))])] (.c (.bool (.var 18))) [.dead, .dead] 18 [.bool]
 (.branch (.not (.var 18))
 (.ret (.c (.bool (.lit true))) [.dead, .dead])
 (.call 35 [(.agg [(.int .i64 (.var 0)), (.int .i64 (.var 1)), (.int .i64 (.var 2)), (.int .i64 (.var 3)), (.int .i64 (.var 4)), (.int .i64 (.var 5)), (.bool (.var 6))]), (.agg [(.int .i64 (.var 7)), (.int .i64 (.var 8)), (.int .i64 (.var 9)), (.int .i64 (.var 10)), (.int .i64 (.var 11)), (.int .i64 (.var 12)), (.bool (.var 13))])] (.c (.bool (.var 19))) [.dead, .dead] 19 [.bool]
  (.branch (.var 19)
  (.ret (.c (.bool (.lit true))) [.dead, .dead])
  (.branch (.cmp .eql (.var 0) (.lit 1))
   (.call 34 [(.agg [(.int .i64 (.var 0)), (.int .i64 (.var 1)), (.int .i64 (.var 2)), (.int .i64 (.var 3)), (.int .i64 (.var 4)), (.int .i64 (.var 5)), (.bool (.var 6))])] (.agg [(.int .i64 (.var 20)), (.int .i64 (.var 21))]) [.dead] 20 [(.int .i64), (.int .i64)]
    (.call 34 [(.agg [(.int .i64 (.var 7)), (.int .i64 (.var 8)), (.int .i64 (.var 9)), (.int .i64 (.var 10)), (.int .i64 (.var 11)), (.int .i64 (.var 12)), (.bool (.var 13))])] (.agg [(.int .i64 (.var 22)), (.int .i64 (.var 23))]) [.dead] 22 [(.int .i64), (.int .i64)]
    (.call 77 [(.agg [(.int .i64 (.var 20)), (.int .i64 (.var 21))]), (.agg [(.int .i64 (.var 22)), (.int .i64 (.var 23))])] (.c (.bool (.var 24))) [.dead, .dead] 24 [.bool]
    (.branch (.var 24)
    (.ret (.c (.bool (.lit true))) [.dead, .dead])
    (.branch (.cmp .eql (.var 7) (.lit 1))
     (.call 34 [(.agg [(.int .i64 (.var 7)), (.int .i64 (.var 8)), (.int .i64 (.var 9)), (.int .i64 (.var 10)), (.int .i64 (.var 11)), (.int .i64 (.var 12)), (.bool (.var 13))])] (.agg [(.int .i64 (.var 25)), (.int .i64 (.var 26))]) [.dead] 25 [(.int .i64), (.int .i64)]
      (.call 34 [(.agg [(.int .i64 (.var 0)), (.int .i64 (.var 1)), (.int .i64 (.var 2)), (.int .i64 (.var 3)), (.int .i64 (.var 4)), (.int .i64 (.var 5)), (.bool (.var 6))])] (.agg [(.int .i64 (.var 27)), (.int .i64 (.var 28))]) [.dead] 27 [(.int .i64), (.int .i64)]
      (.call 77 [(.agg [(.int .i64 (.var 25)), (.int .i64 (.var 26))]), (.agg [(.int .i64 (.var 27)), (.int .i64 (.var 28))])] (.c (.bool (.var 29))) [.dead, .dead] 29 [.bool]
      (.ret (.c (.bool (.var 29))) [.dead, .dead]))))
     (.ret (.c (.bool (.lit false))) [.dead, .dead]))))))
   (.branch (.cmp .eql (.var 7) (.lit 1))
    (.call 34 [(.agg [(.int .i64 (.var 7)), (.int .i64 (.var 8)), (.int .i64 (.var 9)), (.int .i64 (.var 10)), (.int .i64 (.var 11)), (.int .i64 (.var 12)), (.bool (.var 13))])] (.agg [(.int .i64 (.var 20)), (.int .i64 (.var 21))]) [.dead] 20 [(.int .i64), (.int .i64)]
     (.call 34 [(.agg [(.int .i64 (.var 0)), (.int .i64 (.var 1)), (.int .i64 (.var 2)), (.int .i64 (.var 3)), (.int .i64 (.var 4)), (.int .i64 (.var 5)), (.bool (.var 6))])] (.agg [(.int .i64 (.var 22)), (.int .i64 (.var 23))]) [.dead] 22 [(.int .i64), (.int .i64)]
     (.call 77 [(.agg [(.int .i64 (.var 20)), (.int .i64 (.var 21))]), (.agg [(.int .i64 (.var 22)), (.int .i64 (.var 23))])] (.c (.bool (.var 24))) [.dead, .dead] 24 [.bool]
     (.ret (.c (.bool (.var 24))) [.dead, .dead]))))
    (.ret (.c (.bool (.lit false))) [.dead, .dead])))))))))
theorem eq36 : evFn Try.prog E36 Try.f36 A36 14 = T36 := by kernel_rfl

/- multikernel/multikernelref10.Attenuate -/
def E37 : Env := envG 11 [4] [] []
def A37 : List SV := [(.agg [(.int .i64 (.var 0)), (.int .i64 (.var 1)), (.int .i64 (.var 2)), (.int .i64 (.var 3)), (.int .i64 (.var 4)), (.int .i64 (.var 5)), (.bool (.var 6))]), (.c (.int .i64 (.var 7)))]
def T37 : STree := (.ret (.agg [(.int .i64 (.var 0)), (.int .i64 (.var 1)), (.int .i64 (.var 2)), (.int .i64 (.bin .and .i64 (.var 3) (.var 7))), (.int .i64 (.var 4)), (.int .i64 (.var 5)), (.bool (.var 6))]) [.dead, .dead])
theorem eq37 : evFn Try.prog E37 Try.f37 A37 8 = T37 := by kernel_rfl

end Go.Proofs.Ytjfhdhplmibnfaa
