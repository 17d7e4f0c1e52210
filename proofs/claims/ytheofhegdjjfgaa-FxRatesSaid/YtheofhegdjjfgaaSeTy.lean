/- The facts of the types, under the name that the big numbers ask for. -/
import Derived.Test.YtheofhegdjjfgaaSeTz
